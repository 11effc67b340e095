/- Go's library on slices of numbers: reversed, sorted, repeated. No conditions but bounds. -/
import Derived.Test.YtpojdepccecpgaaGreatDoorLd
import Derived.Test.YtpojdepccecpgaaGreatDoorLc
import Derived.Sort.Grow
import Derived.Laws.CopyRow
import Derived.Shelf.Strings.Builder1
import Derived.Shelf.Strings.Builder2
import Derived.Shelf.Strings.OnBuilder
import Derived.Shelf.Small.Bits
import Derived.Shelf.Small.Wraps
import Derived.Shelf.Strconv.Itoa0
import Derived.Shelf.Strconv.Itoa1
import Derived.Shelf.LaysM
import Derived.Shelf.Strconv.Itoa2
import Derived.Shelf.Strconv.Itoa3
import Derived.Shelf.Strconv.Itoa4
import Derived.Shelf.Sort.Plain
import Derived.Shelf.Unicode.Props
import Derived.Shelf.Unicode.PropsLaid
import Derived.Shelf.Unicode.Is16White
import Derived.Shelf.Unicode.IsSpaceAny
import Derived.Shelf.Unicode.Is16WhiteD
import Derived.Shelf.Unicode.Is16Any
import Derived.Shelf.Unicode.Is32Any
import Derived.Shelf.Unicode.ExclAny
import Derived.Shelf.Unicode.PredsAny
import Derived.Shelf.Unicode.PredsPay
import Derived.Shelf.Slices.Turned
import Derived.Shelf.Slices.Reverse
import Derived.Shelf.Slices.Equal
import Derived.Ground.Names2Prog
import Derived.Shelf.Slices.Clone
import Derived.Shelf.Slices.SearchI
import Derived.Shelf.Slices.Cells
import Derived.Shelf.Slices.In.SortNone
import Derived.Shelf.Slices.Empties2
import Derived.Ground.SlgnProg
import Derived.Shelf.SlicesE.Reverse
import Derived.Shelf.SlicesE.Clone
import Derived.Test.YtpojdepccecpgaaGreatDoorChecked
set_option linter.unusedVariables false
set_option linter.unusedSimpArgs false
set_option linter.unusedSectionVars false
namespace Go.Proofs.YtpojdepccecpgaaGreatDoor
open Go.Proofs.Tryz
open Go.Proofs
variable {E : World}
set_option maxRecDepth 20000
theorem indexFuncJ_spec {p : Int → Bool} {fn : FuncId} {c : List AV} (xs : List Int) (hl : xs.length ≤ 281474976710656) (hp : ∀ x ∈ xs, AFun prog E fn ([.int .i64 x] ++ c) (.bool (p x))) :
  AFun prog E 172 [.fro 1 (xs.map encI), .fn fn [] c] (.int .i64 (firstI p xs 0)) := by
 refine zl func172 Z (by decide) Z<|zSr<|zVzAi Z<|z6<|zb<|zSr<|zVzMf Z<|zVGvlenM j4 Z<|zVzMi Z<|z6<|zh<|y3 (γ := Nat) [0, 1, 7] (fun k => [(8, .int .i64 k)]) (fun k => []) (fun k => k ≤ xs.length ∧ (xs.take k).all (fun x => !p x)) (fun k => xs.length - k) 0 zR1 zLe (⟨qp _, Z⟩) ?_
 rintro k ⟨hk, hall⟩
 refine zSr<|zVGvlss Z Z<|z6<|zb<|zk Z (fun ck=>?_) (fun ck=>?_)
 ·have hk2 : k < xs.length := by omega
  refine ze<|zb<|zh<|zSr<|zVzMi Z<|zVzAi Z<|z6<|zSr<|z8 (yf (v := .fn _ _ _) Z)<|zVzMf Z<|zVzMi Z<|z8 (yv j4 j5 Z Z Z (qm (by omega)))<|zVzLi jd Z<|AOps.callVP Z (hp _ (qq hk2)) Z<|z6<|zz Z (fun cp=>?_) (fun cp=>?_)
  ·refine zSr<|zVzMi Z<|zVzAi Z<|z6<|zf<|zj (x := .int _ _) Z ?_
   rw [firstI_drop p xs k hk hall, List.drop_eq_getElem_cons hk2, firstI, if_pos cp]
  ·refine ze<|zRg<|zVzAd Z Z<|zVzMi Z<|z6 ?_
   exact ⟨k + 1, zR3, zR1, zLe, ⟨hk2, by rw [qn hk2, List.all_append, hall]; simp [cp]⟩, by omega⟩
 ·have hkn : k = xs.length := by omega
  refine y2<|zSr<|zVzAi Z<|z6<|zf<|zj (x := .int _ _) Z ?_
  rw [firstI_drop p xs k hk hall, hkn, List.drop_length, firstI]
theorem containsFuncJ_spec {p : Int → Bool} {fn : FuncId} {c : List AV} (xs : List Int) (hl : xs.length ≤ 281474976710656) (hp : ∀ x ∈ xs, AFun prog E fn ([.int .i64 x] ++ c) (.bool (p x))) :
  AFun prog E 133 [.fro 1 (xs.map encI), .fn fn [] c] (.bool (xs.any p)) := by
 refine zl func133 Z (by decide) Z<|zSr<|zVzAb Z<|z6<|zSr<|zVzMf Z<|z8 (yf (v := .fn _ _ _) Z)<|zg (indexFuncJ_spec xs hl hp) Z<|z8 (qc Z Z)<|zVzAb Z<|z6<|zf<|zj (x := .bool _) Z ?_
 rw [firstI_ge]
def kindV (f : PFunc) (v : Int) : Int := ((f.vars[v.toNat]?).map (·.ty)).getD 0
theorem hasV_get {f : PFunc} {v : Int} (h : hasV f v = true) : ∃ x, f.vars[v.toNat]? = some x ∧ v = (v.toNat : Int) ∧ kindV f v = x.ty := by
 unfold hasV at h
 simp only [w0, w4] at h
 have hl : v.toNat < f.vars.length := by omega
 refine ⟨f.vars[v.toNat], qm hl, by omega, ?_⟩
 unfold kindV; rw [qm hl]; rfl
theorem kind_spec (f : PFunc) (v : Int) (hv : hasV f v = true) : AFun prog E 145 [.agg (encF f), .int .i64 v] (.int .i64 (kindV f v)) := by
 obtain ⟨x, hx, hv2, hk⟩ := hasV_get hv
 rw [hk]
 refine zl func145 Z (by decide) Z<|zSr<|y8 (cs := _) Z Z Z<|zVzAi Z<|z6<|zSr<|zVzFF j8 Z Zl Z Z<|zVzLf Zz Z<|zVzMi Z<|z8 (zIM v.toNat jv Ze Z Z hv2 hx)<|zVzFF Z1 Z Ys Z Z<|zVzLi isAgg56 Z<|zVzAi Z<|z6<|zf<|zj (x := .int _ _) Z ?_
 rfl
theorem any_spec (op : Int) : AFun prog E 146 [.int .i64 op] (.bool (decide (op = 1))) := by
 refine zl func146 Z (by decide) Z<|zSr<|zVzAb Z<|z6<|zSr<|zVzMi Z<|zVGveqlI Z Z<|zVzAb Z<|z6<|zf<|zj (x := .bool _) Z ?_
 simp_all
theorem headD_at : ∀ {l : List Int} (h : 0 < l.length), l.headD 0 = l[0]
 | [], h => absurd h (Nat.lt_irrefl 0)
 | _ :: _, _ => rfl
def instT (f : PFunc) (x : PInst) : Bool := if x.op = 1 then decide (kindV f x.dst = kindV f (x.args.headD 0)) else decide (x.args.map (kindV f) = takesL x.op) && (!makesB x.op || decide (kindV f x.dst = makesT x.op))
theorem map_take_succ {f : PFunc} {xs ts : List Int} {k : Nat} (h1 : k < xs.length) (h2 : k < ts.length) (h : (xs.take k).map (kindV f) = ts.take k) (hk : kindV f xs[k] = ts[k]) : (xs.take (k + 1)).map (kindV f) = ts.take (k + 1) := by
 rw [qn h1, qn h2, qw, h, List.map_cons, List.map_nil, hk]
theorem map_ne {f : PFunc} {xs ts : List Int} {k : Nat} (h1 : k < xs.length) (h2 : k < ts.length) (hk : ¬ kindV f xs[k] = ts[k]) : ¬ xs.map (kindV f) = ts := by
 intro e
 apply hk
 subst e
 rw [List.getElem_map]
theorem yinst_spec (f : PFunc) (x : PInst) (ha : x.args.all (hasV f) = true) (hl : x.args.length = (takesL x.op).length) (hd : makesB x.op = true → hasV f x.dst = true) :
  AFun prog E 117 [.agg (encF f), .agg (encInst x)] (.bool (instT f x)) := by
 have hlen : (takesL x.op).length ≤ 3 := by
  rcases kRow_mem x.op with h | h
  ·unfold takesL; rw [h]; decide
  ·have : ∀ r ∈ kindT, r.2.1.data.toList.length ≤ 3 := by decide
   have := this _ h
   unfold takesL; simpa using this
 refine zl func117 Z (by decide) Z<|zSr<|y8 (cs := _) Z Z Z<|y8 (cs := _) Z Z Z<|zVzAb Z<|z6<|zb<|zSr<|zVzFF jf Z Zv Z Z<|zVzLi Y4 Z<|zg (any_spec _) Z<|z6<|zk Z (fun c1=>?_) (fun c1=>?_)
 ·have e1 : x.op = 1 := by simpa using c1
  have hlz : 0 < x.args.length := by rw [hl, e1]; decide
  have hv0 : hasV f x.args[0] = true := List.all_eq_true.1 ha _ (qq hlz)
  have hvd : hasV f x.dst = true := hd (by rw [e1]; decide)
  refine zb<|zq (fun j => false) (by kernel_rfl) Z (zr (.rest _))<|zTk 0 Z (yo jp ji Z Z)<|zTk 1 Z (zFF jf Z j5 Z Z)<|zTk 2 Z (zLi jd Z)<|zTk 4 Z (yo jp ji Z Z)<|zTk 5 Z (zFF jf Z je Z Z)<|zTk 6 Z (zLf jn Z)<|zTk 7 Z (zIM 0 j4 j5 Z Z Z (qm hlz))<|zTk 8 Z (zLi jd Z)<|zOn 3 Z<|zg (kind_spec _ _ (by assumption)) Z<|z6<|zOn 9 Z<|zg (kind_spec _ _ (by assumption)) Z<|z6<|zTk 10 Z (Gv.eqlI Z Z)<|zTk 11 Z (zAb Z)<|zDn<|zf<|zj (x := .bool _) Z ?_
  exact jb (by unfold instT; rw [if_pos e1, headD_at hlz])
 ·have e1 : ¬ x.op = 1 := by simpa using c1
  refine ze<|zb<|zSr<|zVzFF jf Z Zv Z Z<|zVzLi Y4 Z<|zg (takes_spec _) Z<|zVGvlenM underlying192 Z<|zVzMi Z<|z6<|zh<|y3 (γ := Nat) [2, 3, 25, 26] (fun k => [(27, .int .i64 k)]) (fun k => []) (fun k => k ≤ (takesL x.op).length ∧ (x.args.take k).map (kindV f) = (takesL x.op).take k) (fun k => (takesL x.op).length - k) 0 zR1 zLe (⟨qp _, Z⟩) ?_
  rintro k ⟨hk, hall⟩
  refine zSr<|zVGvlss Z Z<|z6<|zb<|zk Z (fun ck=>?_) (fun ck=>?_)
  ·have hk2 : k < (takesL x.op).length := by simp at ck; omega
   have hk3 : k < x.args.length := by omega
   have hvk : hasV f x.args[k] = true := List.all_eq_true.1 ha _ (qq hk3)
   refine ze<|zb<|zh<|zSr<|zVzMi Z<|z8 (zIM k underlying192 Ys Z Z Z (qm hk2))<|zVzLi isAgg56 Z<|zVzAi Z<|zVzAi Z<|z6<|zb<|zq (fun j => false) (by kernel_rfl) Z (zr (.rest _))<|zTk 0 Z (yo jp ji Z Z)<|zTk 1 Z (zFF jf Z je Z Z)<|zTk 2 Z (zLf jn Z)<|zTk 3 Z (zMi Z)<|zTk 4 Z (zIM k j4 j5 Z Z Z (qm hk3))<|zTk 5 Z (zLi jd Z)<|zTk 7 Z (zMi Z)<|zOn 6 Z<|zg (kind_spec _ _ (by assumption)) Z<|z6<|zTk 8 Z (yl Z Z)<|zDn<|zz Z (fun cn=>?_) (fun cn=>?_)
   ·refine zSr<|zVzAb Z<|z6<|zf<|zj (x := .bool _) Z ?_
    exact jb (by unfold instT; rw [if_neg e1, qz (map_ne hk3 hk2 (by simpa using cn))]; rfl)
   ·refine ze<|zRg<|zVzAd Z Z<|zVzMi Z<|z6 ?_
    exact ⟨k + 1, zR4, zR1, zLe, ⟨hk2, map_take_succ hk3 hk2 hall (by simpa using cn)⟩, by omega⟩
  ·have hkn : k = (takesL x.op).length := by simp at ck; omega
   subst hkn
   rw [qr, ← hl, qr] at hall
   refine y2<|zSr<|zVzFF jf Z Zv Z Z<|zVzLi Y4 Z<|zg (makes_spec _) Z<|z8 (zMu Z)<|z8 (zXi Z Z)<|z8 (zXb Z Z)<|zVzAi Z<|zVzAb Z<|z6<|zSr<|zVzMb Z<|zVGvnot Z<|zVzMb Z<|zo (s := 50) Z (fun c1=>?_) (fun c1=>?_)
   ·refine z7 Z Z c1<|z7 Z Z c1<|z7 Z Z c1<|z7 Z Z c1<|z7 Z Z c1<|z7 Z Z c1<|zVzPt Z c1 Z<|zVzAb Z<|z6<|zf<|zj (x := .bool _) Z ?_
    exact jb (by unfold instT; rw [if_neg e1, qy hall]; simp_all)
   ·refine za Z Z c1<|zVGvloadWF jp ji Z Z<|za Z Z c1<|zVzFF jf Z j5 Z Z<|za Z Z c1<|zVzLi jd Z<|za Z Z c1<|zg (kind_spec f x.dst (hd (by simp_all))) Z<|za Z Z c1<|zVzMi Z<|za Z Z c1<|zVGveqlI Z Z<|zVzPf Z c1 Z<|zVzAb Z<|z6<|zf<|zj (x := .bool _) Z ?_
    exact jb (by unfold instT; rw [if_neg e1, qy hall]; simp_all)
def phiT (f : PFunc) (p : PPhi) : Bool := !(p.args.any fun v => !decide (kindV f v = kindV f p.dst))
theorem yphi1_spec (f : PFunc) (p : PPhi) (v : Int) (hv : hasV f v = true) (hd : hasV f p.dst = true) : AFun prog E 144 ([.int .i64 v] ++ [.pf (encF f), .pf (encPhi p)]) (.bool (!decide (kindV f v = kindV f p.dst))) := by
 refine zl func144 Z (by decide) Z<|zSr<|zVzAb Z<|z6<|zb<|zq (fun j => false) (by kernel_rfl) Z (zr (.rest _))<|zTk 0 Z (yo jp ji Z Z)<|zTk 1 Z (zMi Z)<|zTk 3 Z (yo jp ji Z Z)<|zTk 4 Z (zFF jg Z j5 Z Z)<|zTk 5 Z (zLi jd Z)<|zOn 2 Z<|zg (kind_spec _ _ (by assumption)) Z<|z6<|zOn 6 Z<|zg (kind_spec _ _ (by assumption)) Z<|z6<|zTk 7 Z (yl Z Z)<|zTk 8 Z (zAb Z)<|zDn<|zf<|zj (x := .bool _) Z ?_
 simp_all
theorem yphi_spec (f : PFunc) (p : PPhi) (hp : okPhi p) (ha : p.args.all (hasV f) = true) (hd : hasV f p.dst = true) : AFun prog E 116 [.agg (encF f), .agg (encPhi p)] (.bool (phiT f p)) := by
 have hl1 := hp.1.lt
 refine zl func116 Z (by decide) Z<|zSr<|y8 (cs := _) Z Z Z<|y8 (cs := _) Z Z Z<|zVzAb Z<|z6<|zSr<|zVzFF jg Z je Z Z<|zVzLf jn Z<|z8 (Gv.func Z Z)<|zg (containsFuncJ_spec p.args (by omega) (fun v hv => yphi1_spec f p v (List.all_eq_true.1 ha v hv) hd)) Z<|zVGvnot Z<|zVzAb Z<|z6<|zf<|zj (x := .bool _) Z ?_
 rfl
def termT (f : PFunc) (t : PTerm) : Bool := if t.kind = 0 then !decide (t.to0 = 0) else if t.kind = 1 then decide (kindV f t.var = 1) && !decide (t.to0 = 0) && !decide (t.to1 = 0) else decide (kindV f t.var = 0)
theorem yterm_spec (f : PFunc) (t : PTerm) (h : ¬ t.kind = 0 → hasV f t.var = true) : AFun prog E 118 [.agg (encF f), .agg (encTerm t)] (.bool (termT f t)) := by
 refine zl func118 Z (by decide) Z<|zSr<|y8 (cs := _) Z Z Z<|y8 (cs := _) Z Z Z<|zVzAb Z<|z6<|zb<|zSr<|zVzFF j7 Z Zk Z Z<|zVzLi Zr Z<|z6<|zh<|zSr<|zVGveqlI Z Z<|zVzAb Z<|z6<|zz Z (fun c2=>?_) (fun c2=>?_)
 ·refine zSr<|zVzFF j7 Z jy Z Z<|z8 (yp (j := 0) jl j5 Z Z Z (by decide) Z)<|zVzLi jd Z<|z8 (yl Z Z)<|zVzAb Z<|z6<|zf<|zj (x := .bool _) Z ?_
  exact jb (by unfold termT; simp_all)
 ·refine zSr<|zVGveqlI Z Z<|zVzAb Z<|z6<|zz Z (fun c3=>?_) (fun c3=>?_)
  ·refine zSr<|zVGvloadWF jp ji Z Z<|zVzFF j7 Z j5 Z Z<|zVzLi jd Z<|zg (kind_spec f t.var (h (by simp_all))) Z<|zVGveqlI Z Z<|zVzMb Z<|zo (s := 20) Z (fun c4=>?_) (fun c4=>?_)
   ·refine za Z Z c4<|zVzFF j7 Z jy Z Z<|za Z Z c4<|z8 (yp (j := 0) jl j5 Z Z Z (by decide) Z)<|za Z Z c4<|zVzLi jd Z<|za Z Z c4<|z8 (yl Z Z)<|zVzPt Z c4 Z<|zVzMb Z<|zo (s := 26) Z (fun c5=>?_) (fun c5=>?_)
    ·refine za Z Z c5<|zVzFF j7 Z jy Z Z<|za Z Z c5<|z8 (yp (j := 1) jl j5 Z Z Z (by decide) Z)<|za Z Z c5<|zVzLi jd Z<|za Z Z c5<|z8 (yl Z Z)<|zVzPt Z c5 Z<|zVzAb Z<|z6<|zf<|zj (x := .bool _) Z ?_
     exact jb (by unfold termT; simp_all)
    ·refine z7 Z Z c5<|z7 Z Z c5<|z7 Z Z c5<|z7 Z Z c5<|zVzPf Z c5 Z<|zVzAb Z<|z6<|zf<|zj (x := .bool _) Z ?_
     exact jb (by unfold termT; simp_all)
   ·refine z7 Z Z c4<|z7 Z Z c4<|z7 Z Z c4<|z7 Z Z c4<|zVzPf Z c4 Z<|zVzMb Z<|z7 Z Z Z<|z7 Z Z Z<|z7 Z Z Z<|z7 Z Z Z<|zVzPf Z Z Z<|zVzAb Z<|z6<|zf<|zj (x := .bool _) Z ?_
    exact jb (by unfold termT; simp_all)
  ·refine ze<|zSr<|zVGvloadWF jp ji Z Z<|zVzFF j7 Z j5 Z Z<|zVzLi jd Z<|zg (kind_spec f t.var (h (by simp_all))) Z<|zVGveqlI Z Z<|zVzAb Z<|z6<|zf<|zj (x := .bool _) Z ?_
   exact jb (by unfold termT; simp_all)
end Go.Proofs.YtpojdepccecpgaaGreatDoor
namespace Go.Proofs.YtpojdepccecpgaaGreatDoor
open Go.Proofs.Tryz
open Go.Proofs
theorem ps23_1 : PlacesS prog 23 3 1 1 [.int .i64 0] := ⟨_, j4, j5, Zw, by decide, by decide, by kernel_rfl⟩
theorem ps23_2 : PlacesS prog 23 3 2 1 [.int .i64 0, .int .i64 0] := ⟨_, j4, j5, Zw, by decide, by decide, by kernel_rfl⟩
variable {E : World}
set_option maxRecDepth 20000
theorem ends_0 {t : PTerm} (h : t.kind = 0) : endsL t = [t.to0] := by unfold endsL; rw [if_pos h]
theorem ends_1 {t : PTerm} (h : t.kind = 1) (e : t.to0 = t.to1) : endsL t = [t.to0] := by unfold endsL; rw [if_neg (by omega), if_pos h, if_pos e]
theorem ends_2 {t : PTerm} (h : t.kind = 1) (e : ¬ t.to0 = t.to1) : endsL t = [t.to0, t.to1] := by unfold endsL; rw [if_neg (by omega), if_pos h, if_neg e]
theorem ends_3 {t : PTerm} (h0 : ¬ t.kind = 0) (h : ¬ t.kind = 1) : endsL t = [] := by unfold endsL; rw [if_neg h0, if_neg h]
theorem ends_spec (t : PTerm) : AFun prog E 52 [.agg (encTerm t)] (.fro 1 ((endsL t).map encI)) := by
 refine zl func52 Z (by decide) Z<|zSr<|y8 (cs := _) Z Z Z<|z8 (zAr Z)<|z6<|zb<|zh<|zb<|zSr<|zVzFF j7 Z Zk Z Z<|zVzLi Zr Z<|zVGveqlI Z Z<|zVzAb Z<|z6<|zk Z (fun c0=>?_) (fun c0=>?_)
 ·refine ze<|yq Z (by simpa using c0)<|zSr<|zVzFF j7 Z jy Z Z<|z8 (yp (j := 0) jl j5 Z Z Z (by decide) Z)<|zVzLi jd Z<|zn (rows := [[_]]) ps23_1 Z Z Z Z Z<|z8 (zAf Z)<|z6<|zf<|zj (x := .fro _ _) Z ?_
  rw [ends_0 c0]; rfl
 ·refine zRg<|zVzFF j7 Z Zk Z Z<|zVzLi Zr Z<|zVGveqlI Z Z<|zVzMb Z<|zo (s := 10) Z (fun c1=>?_) (fun c1=>?_)
  ·refine za Z Z c1<|zVzFF j7 Z jy Z Z<|za Z Z c1<|z8 (yp (j := 0) jl j5 Z Z Z (by decide) Z)<|za Z Z c1<|zVzLi jd Z<|za Z Z c1<|zVzFF j7 Z jy Z Z<|za Z Z c1<|z8 (yp (j := 1) jl j5 Z Z Z (by decide) Z)<|za Z Z c1<|zVzLi jd Z<|za Z Z c1<|zVGveqlI Z Z<|zVzPt Z c1 Z<|zVzAb Z<|z6<|zz Z (fun c2=>?_) (fun c2=>?_)
   ·refine zSr<|zVzFF j7 Z jy Z Z<|z8 (yp (j := 0) jl j5 Z Z Z (by decide) Z)<|zVzLi jd Z<|zn (rows := [[_]]) ps23_1 Z Z Z Z Z<|z8 (zAf Z)<|z6<|zf<|zj (x := .fro _ _) Z ?_
    rw [ends_1 (by simpa using c1) (by simpa using c2)]; rfl
   ·refine zSr<|zVzFF j7 Z Zk Z Z<|zVzLi Zr Z<|zVGveqlI Z Z<|zVzAb Z<|z6<|yq Z (by simpa using c1)<|zSr<|zVzFF j7 Z jy Z Z<|z8 (yp (j := 0) jl j5 Z Z Z (by decide) Z)<|zVzLi jd Z<|zVzFF j7 Z jy Z Z<|z8 (yp (j := 1) jl j5 Z Z Z (by decide) Z)<|zVzLi jd Z<|zn (rows := [[_], [_]]) ps23_2 Z Z Z Z Z<|z8 (zAf Z)<|z6<|zf<|zj (x := .fro _ _) Z ?_
    rw [ends_2 (by simpa using c1) (by simpa using c2)]; rfl
  ·refine z7 Z Z c1<|z7 Z Z c1<|z7 Z Z c1<|z7 Z Z c1<|z7 Z Z c1<|z7 Z Z c1<|z7 Z Z c1<|zVzPf Z c1 Z<|zVzAb Z<|z6<|ym Z Z<|zSr<|zVzFF j7 Z Zk Z Z<|zVzLi Zr Z<|zVGveqlI Z Z<|zVzAb Z<|z6<|ym Z (by simpa using c1)<|ze<|zSr<|z8 (zAr Z)<|z6<|zf ?_
   repeat (first | refine aseqQ_ret ?_ | refine ablockQ_ret ?_)
   refine yz (GStep.slot (t := 2) Z (impNil 1))<|zj (x := .fro _ _) Z ?_
   rw [ends_3 (by simpa using c0) (by simpa using c1)]; rfl
def push1 (rows : List (List Int)) (c x : Int) : List (List Int) := rows.set c.toNat ((rows[c.toNat]?).getD [] ++ [x])
def pushes (rows : List (List Int)) (cs : List Int) (x : Int) : List (List Int) := cs.foldl (fun r c => push1 r c x) rows
theorem pushes_len (cs : List Int) (x : Int) : ∀ rows, (pushes rows cs x).length = rows.length := by
 induction cs with
 | nil => intro rows; rfl
 | cons c cs ih => intro rows; show (pushes (push1 rows c x) cs x).length = _; rw [ih]; unfold push1; simp
theorem pushes_snoc (rows : List (List Int)) (cs : List Int) (c x : Int) : pushes rows (cs ++ [c]) x = push1 (pushes rows cs x) c x := by unfold pushes; rw [List.foldl_append]; rfl
theorem push1_get {rows : List (List Int)} {c x : Int} (h0 : 0 ≤ c) (b : Nat) : (push1 rows c x)[b]? = (rows[b]?).map (· ++ if c = (b : Int) then [x] else []) := by
 unfold push1
 rw [List.getElem?_set]
 by_cases e : c.toNat = b
 ·have : c = (b : Int) := by omega
  rw [if_pos e, if_pos this, e]
  by_cases hb : b < rows.length
  ·rw [if_pos hb, qm hb]; rfl
  ·rw [if_neg hb, List.getElem?_eq_none (by omega)]; rfl
 ·have : ¬ c = (b : Int) := by omega
  rw [if_neg e, if_neg this]; simp
theorem pushes_get (x : Int) (b : Nat) : ∀ (cs : List Int) (rows : List (List Int)), (∀ c ∈ cs, 0 ≤ c) → (pushes rows cs x)[b]? = (rows[b]?).map (· ++ (cs.filter fun c => decide (c = (b : Int))).map fun _ => x)
 | [], rows, _ => by simp [pushes]
 | c :: cs, rows, h => by
  show (pushes (push1 rows c x) cs x)[b]? = _
  rw [pushes_get x b cs _ (fun c hc => h c (List.mem_cons_of_mem _ hc)), push1_get (h c (List.mem_cons_self ..))]
  cases rows[b]? with
  | none => rfl
  | some r =>
   by_cases e : c = (b : Int)
   ·simp [e]
   ·simp [e]
def predsR (f : PFunc) (k : Nat) : List (List Int) := (List.range f.blocks.length).map fun (b : Nat) => predsT (EndsOf f) k (b : Int)
theorem predsR_len (f : PFunc) (k : Nat) : (predsR f k).length = f.blocks.length := by unfold predsR; simp
theorem predsR_zero (f : PFunc) : List.replicate f.blocks.length [] = predsR f 0 := by
 apply List.ext_getElem
 ·rw [predsR_len]; simp
 ·intro i h1 h2
  unfold predsR predsT intsTo
  simp
theorem predsT_succ (E : Int → List Int) (k : Nat) (b : Int) : predsT E (k + 1) b = predsT E k b ++ ((E k).filter fun c => decide (c = b)).map fun _ => (k : Int) := by
 unfold predsT; rw [intsTo_succ, List.flatMap_append]; simp
theorem predsR_succ {f : PFunc} {k : Nat} (h0 : ∀ c ∈ EndsOf f k, 0 ≤ c) : pushes (predsR f k) (EndsOf f k) k = predsR f (k + 1) := by
 apply List.ext_getElem?
 intro b
 rw [pushes_get _ _ _ _ h0]
 by_cases hb : b < f.blocks.length
 ·unfold predsR
  rw [qu, qu, List.getElem?_range hb]
  simp only [Option.map_some]
  rw [predsT_succ]
 ·rw [List.getElem?_eq_none (by rw [predsR_len]; omega), List.getElem?_eq_none (by rw [predsR_len]; omega)]; rfl
theorem push_row {rows : List (List Int)} {c x : Int} (h : c.toNat < rows.length) : rows.set c.toNat (rows[c.toNat] ++ [x]) = push1 rows c x := by
 unfold push1; rw [qm h]; rfl
theorem predsT_len (f : PFunc) (b : Int) : ∀ k, (predsT (EndsOf f) k b).length ≤ 2 * k
 | 0 => by simp [predsT, intsTo]
 | k + 1 => by
  have h1 := predsT_len f b k
  have h2 := EndsOf_len f k
  have h3 := List.length_filter_le (fun c => decide (c = b)) (EndsOf f k)
  rw [predsT_succ, qs, qt]
  omega
theorem row_len {f : PFunc} {k b : Nat} {cs : List Int} {x : Int} (h0 : ∀ c ∈ cs, 0 ≤ c) (hb : b < (pushes (predsR f k) cs x).length) : (pushes (predsR f k) cs x)[b].length ≤ 2 * k + cs.length := by
 have hb2 : b < f.blocks.length := by rwa [pushes_len, predsR_len] at hb
 have h := pushes_get x b cs (predsR f k) h0
 have hr : (predsR f k)[b]? = some (predsT (EndsOf f) k (b : Int)) := by unfold predsR; rw [qu, List.getElem?_range hb2]; rfl
 rw [qm hb, hr] at h
 have h : (pushes (predsR f k) cs x)[b] = predsT (EndsOf f) k (b : Int) ++ (cs.filter fun c => decide (c = (b : Int))).map fun _ => x := by simpa using h
 have h2 := predsT_len f b k
 have h3 := List.length_filter_le (fun c => decide (c = (b : Int))) cs
 rw [h, qs, qt]
 omega
theorem preds_spec (f : PFunc) (hE : EndsOk f) (hn : f.blocks.length ≤ 100000) : AFun prog E 49 [.agg (encF f)] (froN eI (predsR f f.blocks.length)) := by
 refine zl func49 Z (by decide) Z<|zSr<|y8 (cs := _) Z Z Z<|z8 (zAr Z)<|z6<|zSr<|zVzFF j8 Z ju Z Z<|zVzLf Z5 Z<|zVGvlenM jh Z<|AOps.makeNest (m := f.blocks.length) underlying97 type23 Z Z Z Z Z (by simp) (by simp) (by show (24 : Int) * _ ≤ _; omega) (by omega) eI 3<|fun b11 => z8 (y4 (v := nref _ _) Z)<|z6<|zb<|zSr<|zVzFF j8 Z ju Z Z<|zVzLf Z5 Z<|zVGvlenM jh Z<|zVzMi Z<|z6<|zh<|y3 (γ := Nat) [3, 13, 14] (fun k => [(15, .int .i64 k)]) (fun k => [(0, nestO eI 23 3 b11 (predsR f k))]) (fun k => k ≤ f.blocks.length) (fun k => f.blocks.length - k) 0 zR1 ⟨_, (.refl _), by rw [predsR_zero]⟩ (qp _) ?_
 rintro k hk
 refine zSr<|zVGvlss Z Z<|z6<|zb<|zk Z (fun ck=>?_) (fun ck=>?_)
 ·have hk2 : k < f.blocks.length := by simp at ck; omega
  have hEk : EndsOf f k = endsL f.blocks[k].term := EndsOf_nat hk2
  have hlen := endsL_len f.blocks[k].term
  have hrng := hE.rng _ (qq hk2)
  refine ze<|zb<|zh<|zSr<|zVzMi Z<|z8 (zIM k jh jm Z Z Z (qm hk2))<|zVGvloadWF Zq jm Z Z<|zu (cs := [.str ⟨#[]⟩, .raw (.slice none 0 0), .raw (.slice none 0 0), .int .i64 0, .int .i64 0, .int .i64 0, .int .i64 0]) Z4 Z Z<|fun i5 => zVzAi Z<|zt jm Z Z Z Z Z Z .head Z<|z6<|zSr<|z8 (zc j6 Z jx (by decide) Z Z)<|z8 (Gv.loadAC (l := [_, _, _, _]) Ye jx Z ⟨_, .head⟩ Z Z)<|zg (ends_spec _) Z<|zVGvlenM j4 Z<|zVzMi Z<|z6<|zh<|y3 (γ := Nat) [3, 4, 13, 14, 15, 22, 23] (fun j => [(24, .int .i64 j)]) (fun j => [(0, nestO eI 23 3 b11 (pushes (predsR f k) ((endsL f.blocks[k].term).take j) k))]) (fun j => j ≤ (endsL f.blocks[k].term).length) (fun j => (endsL f.blocks[k].term).length - j) 0 zR1 ⟨_, (.drop (.refl _)), Z⟩ (qp _) ?_
  rintro j hj
  refine zSr<|zVGvlss Z Z<|z6<|zb<|zk Z (fun cj=>?_) (fun cj=>?_)
  ·have hj2 : j < (endsL f.blocks[k].term).length := by simp at cj; omega
   obtain ⟨c, hc⟩ : ∃ c, (endsL f.blocks[k].term)[j] = c := ⟨_, rfl⟩
   have hr := hrng c (hc ▸ qq hj2)
   obtain ⟨rows, hrows⟩ : ∃ rows, pushes (predsR f k) ((endsL f.blocks[k].term).take j) k = rows := ⟨_, rfl⟩
   have hrl : rows.length = f.blocks.length := by rw [← hrows, pushes_len, predsR_len]
   have hcn : c.toNat < rows.length := by omega
   have hrow : rows[c.toNat].length ≤ 200002 := by
    have := row_len (f := f) (k := k) (b := c.toNat) (cs := (endsL f.blocks[k].term).take j) (x := k) (fun c hc => (hrng c (List.mem_of_mem_take hc)).1) (by rw [hrows]; exact hcn)
    simp only [hrows, qx] at this
    omega
   rw [hrows]
   refine ze<|zb<|zh<|zSr<|z8 (zIM j j4 j5 Z Z Z (by rw [qm hj2, hc])) ?_
   refine zVzLi jd Z<|zVzAi Z<|z6<|zRg<|z8 (yf (v := nref _ _) Z)<|zVzMi Z<|z8 (yf (v := nref _ _) Z)<|zVzMi Z<|z8 (Gv.idxN (j := c.toNat) underlying97 je Z Z (by omega) (by omega))<|AOps.nestTake (j := c.toNat) (r := rows[c.toNat]) jn Z (qm hcn) (fun _ => .head)<|fun i33 => zVzMi Z<|zn (rows := [[_]]) ps23_1 Z Z Z Z Z<|y5 (k := 1) j4 Zi Z Z Z Z Z (fun _ => .head) (by rw [eI.av_len]; rfl) (by decide) Z (by show (_ + 1) * 8 ≤ _; omega) (by show _ + 1 ≤ _; omega)<|fun i36 => z8 (Gv.idxN (j := c.toNat) underlying97 je Z Z (by omega) (by omega))<|AOps.nestPut (j := c.toNat) (r := rows[c.toNat] ++ [(k : Int)]) je Z Z (by omega) .head .head Z (eI.av_push _ _) (by simp)<|z6<|zRg<|zVzAd Z Z<|zVzMi Z<|z6 ?_
   exact ⟨j + 1, zR7, zR1, ⟨_, (.refl _), by rw [qn hj2, pushes_snoc, hrows, hc, push_row hcn]⟩, hj2, by omega⟩
  ·have hjn : j = (endsL f.blocks[k].term).length := by simp at cj; omega
   refine y2<|zRg<|zVzAd Z Z<|zVzMi Z<|z6 ?_
   exact ⟨k + 1, zR3, zR1, ⟨_, (.refl _), by rw [hjn, qr, ← hEk, predsR_succ (fun c hc => (hrng c (hEk ▸ hc)).1)]⟩, hk2, by omega⟩
 ·have hkn : k = f.blocks.length := by simp at ck; omega
  subst hkn
  refine y6 (GStep.nestKnow (s := 3) Z .head (predsR_len f _))<|y2<|zSr<|zVzMf Z<|z8 (zAf Z)<|z6<|zf<|zj (x := .fro _ _) Z ?_
  rfl
end Go.Proofs.YtpojdepccecpgaaGreatDoor
namespace Go.Proofs.YtpojdepccecpgaaGreatDoor
open Go.Proofs.Tryz
open Go.Sort (Holds putRow putCells onCells)
theorem putCells_eq {zs ys : List Int} {junk : List Value} (hl : ys.length = zs.length) : putCells (Value.int .i64) 0 ys.toArray (zs.map (Value.int .i64) ++ junk).toArray = (ys.map (Value.int .i64) ++ junk).toArray := by
 unfold putCells
 apply Array.ext_getElem?
 intro k
 simp only [Array.getElem?_mapIdx, List.getElem?_toArray, qp, true_and, Nat.zero_add, Nat.sub_zero, List.size_toArray]
 by_cases hk : k < ys.length
 ·rw [List.getElem?_append_left (by rw [qt]; omega), List.getElem?_append_left (by rw [qt]; omega), qu, qu, qm hk, qm (by omega : k < zs.length)]
  simp [hk]
 ·rw [List.getElem?_append_right (by rw [qt]; omega), List.getElem?_append_right (by rw [qt]; omega), qt, qt, hl]
  rw [hl] at hk
  simp only [hk, if_false]
  cases junk[k - zs.length]? <;> rfl
theorem SL.turned {I : Ghost} {O : List (Nat × Obj)} {E w : World} {b n : Nat} {zs ys : List Int} {junk : List Value} {T : TypeId} {os : Array Obj} (hl : ys.length = zs.length) (h : SL I ((b, .cells (zs.map (Value.int .i64) ++ junk).toArray T (0, 0)) :: O) E w) :
  SL I ((b, .cells (ys.map (Value.int .i64) ++ junk).toArray T (0, 0)) :: O) E (Go.Sort.grow (putRow (Value.int .i64) (Go.Sort.ahead w n) b 0 ys.toArray) os) := by
 have hb := h.own _ (.head _)
 simp only at hb
 have hlt := lt_of_some hb
 have h1 : SL I ((b, .cells (ys.map (Value.int .i64) ++ junk).toArray T (0, 0)) :: O) E (putRow (Value.int .i64) (Go.Sort.ahead w n) b 0 ys.toArray) := by
  refine h.turn Z Z Z ?_ fun k hk => ?_
  ·show (w.heap.modify b (onCells (putCells (Value.int .i64) 0 ys.toArray)))[b]? = _
   rw [Array.getElem?_modify, if_pos rfl, hb]
   simp only [Option.map_some, onCells, putCells_eq hl]
  ·show (w.heap.modify b (onCells (putCells (Value.int .i64) 0 ys.toArray)))[k]? = _
   rw [Array.getElem?_modify, if_neg (fun e => hk e.symm)]
 exact h1.more rfl rfl rfl fun k hk => Go.Sort.heap_grow_old _ _ hk
theorem ACall.turned {E : World} {P : Program} {f : FuncId} {fn : Func} {c : Code} {g : List Int → List Int} {B : Nat} (hf : P.funcs[f]? = some fn) (hb : fn.body = some c) (hn : fn.name ≠ "runtime.NumGoroutine") (hg : ∀ l, (g l).length = l.length)
  (hC : ∀ (blk cap : Nat) (zs : List Int) (w : World), Holds (Value.int .i64) w blk 0 zs.toArray → blk < w.heap.size → zs.length < B →
   Calls P f #[.slice (some ⟨blk, 0, none⟩) zs.length cap] w fun e w' => e = .returned (.tuple #[]) ∧ ∃ n os, w' = Go.Sort.grow (putRow (Value.int .i64) (Go.Sort.ahead w n) blk 0 (g zs).toArray) os)
  (hN : ∀ (cap : Nat) (w : World), Calls P f #[.slice none 0 cap] w fun e w' => e = .returned (.tuple #[]) ∧ w' = w)
  {l : List Int} {i n : Nat} {T : TypeId} (hl : l.length = n) (hB : n < B) : ACall P E f [.own i n] [(i, .grow 1 T (cI l))] fun r O => r = .tup [] ∧ O = [(i, .grow 1 T (cI (g l)))] := fun I F w vs h1 h2 => by
 obtain ⟨v, us, rfl, ⟨b, c, e1, rfl⟩, h3⟩ := h1
 have h3 : us = [] := h3
 subst h3
 obtain ⟨ht, L, ⟨A, B', e2, ⟨b', c', n', ws, e3, h4, h5, h6⟩, h7⟩, hS⟩ := h2
 have h7 : B' = [] := h7
 subst h7
 rw [List.append_nil] at e2
 subst e2
 simp only at e3
 rw [e1] at e3
 simp only [Option.some.injEq, Prod.mk.injEq] at e3
 obtain ⟨rfl, rfl⟩ := e3
 have h4 := cI_un h4
 subst h4
 refine Fn.ofCalls hf hb hn ?_
 obtain ⟨g1, g2, g3⟩ := h6
 rw [qt, Nat.mul_one] at g1
 have hnn : n' = n := by omega
 subst hnn
 rcases g3 with ⟨ea, rfl, rfl⟩ | ⟨b2, junk, ea, rfl, hj⟩
 ·have h0 : n' = 0 := by omega
  subst h0
  have hl0 : l = [] := List.eq_nil_of_length_eq_zero hl
  subst hl0
  have hg0 : g [] = [] := List.eq_nil_of_length_eq_zero (hg [])
  rw [ea]
  refine (hN 0 w).mono fun e w' ⟨he, hw⟩ => ⟨_, he, I, .tup [], _, .refl _, ⟨[], Z, Z⟩, ?_, Z, Z⟩
  subst hw
  rw [hg0]
  exact ⟨ht, [], ⟨[], [], rfl, ⟨b, 0, 0, [], e1, rfl, by simp, by rw [ea]; exact OwnS.nil 1 T⟩, rfl⟩, hS⟩
 ·rw [ea]
  have hS2 : SL I.k ((b2, .cells (l.map (Value.int .i64) ++ junk).toArray T (0, 0)) :: F) E w := hS
  have hH : Holds (Value.int .i64) w b2 0 l.toArray := fun j hjl => by
   have hj2 : j < l.length := by simpa using hjl
   have hbk := hS2.own _ (.head _)
   simp only at hbk
   refine ⟨?_, ?_⟩
   ·rw [hS2.cell_own, Nat.zero_add, List.getElem?_toArray, List.getElem?_append_left (by rw [qt]; exact hj2), qu, qm hj2]
    simp [hj2]
   ·simp [World.frozen?, hbk]
  have := hC b2 c l w hH (lt_of_some (hS2.own _ (.head _))) (by omega)
  rw [hl] at this
  refine this.mono fun e w' ⟨he, k, os, hw⟩ => ⟨_, he, I, .tup [], _, .refl _, ⟨[], Z, Z⟩, ?_, Z, Z⟩
  subst hw
  refine ⟨ht, [(b2, .cells ((g l).map (Value.int .i64) ++ junk).toArray T (0, 0))], ⟨_, [], by simp, ⟨b, c, n', (g l).map (Value.int .i64), e1, cI_rep_of I (g l), fun u hu => by obtain ⟨x, _, rfl⟩ := List.mem_map.1 hu; rfl, by rw [qt, hg, hl, Nat.mul_one], g2, .inr ⟨b2, junk, ea, rfl, by rw [qs, qt, hg] ; rw [qs, qt] at hj; exact hj⟩⟩, rfl⟩, ?_⟩
  exact SL.turned (hg l) hS2
end Go.Proofs.YtpojdepccecpgaaGreatDoor
namespace Go.Proofs.YtpojdepccecpgaaGreatDoor
open Go.Proofs.Tryz
variable {α : Type}
theorem NestR.inv {c : Enc α} {e : TypeId} {r : List α} {rs : List (List α)} {hs : List Value} {L : List (Nat × Obj)} (h : NestR c e (r :: rs) hs L) :
  ∃ a n cap hs' A B, hs = .slice a n cap :: hs' ∧ L = A ++ B ∧ OwnS c.k e a n cap (c.vs r) A ∧ NestR c e rs hs' B := by
 cases h with
 | cons h1 h2 => exact ⟨_, _, _, _, _, _, rfl, rfl, h1, h2⟩
section
variable {E : World} {P : Program} {ops : Array Oper} {K : AEnv → OL → Prop} {env : AEnv} {O O' O'' : OL} {rest : List Oper} {n : Nat}
variable {d ty : Nat} {pos : String} {af : Array Edge} {x y z : Operand} {t u e T : TypeId}
end
end Go.Proofs.YtpojdepccecpgaaGreatDoor
namespace Go.Proofs.YtpojdepccecpgaaGreatDoor
open Go.Proofs.Tryz
open Go.Proofs
theorem pl174 : Places prog 174 #[(0, 1), (1, 1)] [.int .i64 0, .int .i64 0] := ⟨_, _, Yb, zeroValue174, fun w => by kernel_rfl, rfl⟩
theorem ps175_1 : PlacesS prog 175 174 1 2 [.int .i64 0, .int .i64 0] := ⟨_, Ya, sizeOf174, zeroValue174, by decide, by decide, by kernel_rfl⟩
variable {E : World}
set_option maxRecDepth 20000
def stC (r : List (Int × Nat)) : List AV := (r.reverse.map fun q => [AV.int .i64 q.1, AV.int .i64 (q.2 : Int)]).flatten
theorem stC_cons (b : Int) (k : Nat) (r : List (Int × Nat)) : stC ((b, k) :: r) = stC r ++ [AV.int .i64 b, AV.int .i64 (k : Int)] := by unfold stC; simp
theorem stC_len (r : List (Int × Nat)) : (stC r).length = r.length * 2 := by
 induction r with
 | nil => rfl
 | cons q r ih => obtain ⟨b, k⟩ := q; rw [stC_cons, qs, ih]; simp only [List.length_cons, List.length_nil]; omega
theorem dfs_lens {f : PFunc} {n k : Nat} (hE : EOk (EndsOf f) n) : (dfsN (EndsOf f) n k).2.1.length + (dfsN (EndsOf f) n k).2.2.length ≤ n := by
 have h := dfsN_inv hE k
 have h2 := nodup_len _ (intsTo n) h.nodup fun x hx => mem_intsTo.2 (h.rng x hx)
 rw [intsTo_len, qs, qt] at h2
 exact h2
theorem order_spec (f : PFunc) (hE : EndsOk f) (hn : f.blocks.length ≤ 100000) (hrev : ∀ (l : List Int) (i : Nat) (T : TypeId), l.length ≤ 200000 → ACall prog E 121 [.own i l.length] [(i, .grow 1 T (cI l))] fun r O => r = .tup [] ∧ O = [(i, .grow 1 T (cI l.reverse))]) :
  AFun prog E 83 [.agg (encF f)] (.fro 1 ((orderT (EndsOf f) f.blocks.length).map encI)) := by
 have hG := hE.grph
 have hpos := hG.npos
 refine zl func83 Z (by decide) Z<|zSr<|y8 (cs := _) Z Z Z<|z8 (zAr Z)<|z6<|zSr<|zVzFF j8 Z ju Z Z<|zVzLf Z5 Z<|zVGvlenM jh Z<|AOps.makeB (m := f.blocks.length) jk Y9 Z Z Z Z Z (by simp) (by simp) (by show (1 : Int) * _ ≤ _; omega) (by omega)<|fun i12 => z8 (zAo Z)<|z6<|zSr<|z8 (zMo Z)<|z8 (yj (j := 0) jk Z6 Z Z Z ⟨_, .head⟩ (by first | rfl | (simp [cI_len, cB_len]; done) | (simp [cI_len, cB_len]; omega)) hG.npos)<|qd (j := 0) Z6 Z Z .head (by first | omega | (simp; omega))<|z6<|zSr<|z8 (zAr Z)<|z6<|zSr<|z8 (ye (cps := [(0, [_]), (1, [_])]) (rs := [_, _]) pl174 Z Z Z)<|AOps.buildSliceO (cps := [(0, [_, _])]) (rs := [_, _]) ps175_1 Z Z Z Z Z<|fun i16 => z8 (zAo Z)<|z6<|adopt_wp (t := 4) (k := 1) (T := 3) Z<|fun i4 => y6 (zm (zp .t1))<|zb<|zh<|y3 (γ := Nat × Nat × Nat) [1, 3] (fun g => [(4, .own g.2.1 (dfsN (EndsOf f) f.blocks.length g.1).2.1.length), (5, .own g.2.2 (dfsN (EndsOf f) f.blocks.length g.1).2.2.length)]) (fun g => [(g.2.2, .grow 2 174 (stC (dfsN (EndsOf f) f.blocks.length g.1).2.2)), (g.2.1, .grow 1 3 (cI (dfsN (EndsOf f) f.blocks.length g.1).2.1)), (i12, .grow 1 4 (cB (dfsN (EndsOf f) f.blocks.length g.1).1))]) (fun g => g.1 ≤ 4 * f.blocks.length ∧ (dfsN (EndsOf f) f.blocks.length g.1).1.length = f.blocks.length) (fun g => dleft (dfsN (EndsOf f) f.blocks.length g.1)) (0, i4, i16) zR2 zLe (⟨qp _, by simp [dfsN, dfs0]⟩) ?_
 rintro ⟨k, io, il⟩ ⟨hk, hsl⟩
 try dsimp only at *
 have hI := dfsN_inv hG.toEOk k
 have hlen := dfs_lens (k := k) hG.toEOk
 have hlt := dfs_left hG.toEOk k
 have hstep : dfsN (EndsOf f) f.blocks.length (k + 1) = dstep (EndsOf f) (dfsN (EndsOf f) f.blocks.length k) := rfl
 rcases hx : dfsN (EndsOf f) f.blocks.length k with ⟨seen, out, st⟩
 rw [hx] at hI hlen hlt hstep hsl
 dsimp only at hlen hlt hsl
 cases st with
 | nil =>
 ·refine zb<|zSr<|z8 (zMo Z)<|z8 (qj Ya Z)<|z8 (yy Z Z)<|z6<|ym Z (by simp) ?_
  have hfin := dfs_still (E := EndsOf f) (n := f.blocks.length) (k := k) (by rw [hx]) hk
  refine y2<|zSr<|z8 (zMo Z)<|yh Z (zr (.r (.l (.r (.rest _))))) (hrev out io 3 (by omega)) ?_
  rintro r82 O82 ⟨rfl, rfl⟩
  refine z6<|y6 (GStep.knowI (t := 4) Z .head (by simp))<|zSr<|zVzMf Z<|z8 (zAf Z)<|z6<|zf<|zj (x := .fro _ _) Z ?_
  unfold orderT; rw [hfin, hx]; rfl
  | cons q r =>
 ·obtain ⟨b, j⟩ := q
  have hbr := hI.rng b (by simp)
  have hbl : b.toNat < f.blocks.length := by omega
  have hEb : EndsOf f b = endsL f.blocks[b.toNat].term := EndsOf_get hbr.1 hbl
  have hjl := (hI.part (b, j) (by simp)).1
  dsimp only at hjl
  have hmn : dleft (dfsN (EndsOf f) f.blocks.length (k + 1)) < dleft (dfsN (EndsOf f) f.blocks.length k) := by rw [hstep, hx]; exact DInv.less hG.toEOk hI (by simp)
  have hk2 : k + 1 ≤ 4 * f.blocks.length := by simp at hlt; omega
  have hsn : (dfsN (EndsOf f) f.blocks.length (k + 1)).1.length = f.blocks.length := (dfsN_inv hG.toEOk (k + 1)).len
  rw [dstep_cons] at hstep
  rw [hx] at hmn
  rw [stC_cons]
  simp only [List.length_cons] at hlen ⊢
  refine zb<|zSr<|z8 (zMo Z)<|z8 (qj Ya Z)<|z8 (yy Z Z)<|z6<|yq Z (by simp)<|ze<|zh<|zSr<|z8 (zMo Z)<|z8 (zMo Z)<|z8 (qj Ya Z)<|z8 (Gv.sub Z Z (by unfold I64; show _ ∧ ((r.length + 1 : Nat) : Int) - 1 ≤ _; omega))<|z8 (Gv.idxOL (j := r.length) Ya sizeOf174 Z Z (by show ((r.length + 1 : Nat) : Int) - 1 = _; omega) ⟨_, .head⟩ (by simp) (by show r.length < r.length + 1; omega) (show r.length * 2 = (stC r).length by rw [stC_len]))<|z8 (zAp Z)<|z6<|zb<|zq (fun j => false) (by kernel_rfl) Z (zr (.r (.rest _)))<|zTk 0 Z (zFF j8 Z ju Z Z)<|zTk 1 Z (zLf Z5 Z)<|zTk 2 Z (zMp Z)<|zTk 3 Z (zy Z)<|zTk 4 Z (zc Yb Z j5 (by decide) Z Z)<|zTk 5 Z (Gv.loadL (c := .int _ _) (j := 0) jd Z Z ⟨_, .head⟩ Z)<|zTk 6 Z (zIM b.toNat jh jm Z Z (by omega) (qm hbl))<|zTk 7 Z (zFF j6 Z jx Z Z)<|zTk 8 Z (yo Ye jx Z Z)<|zOn 9 Z<|zg (ends_spec _) Z<|z6<|zTk 10 Z (zAf Z)<|zDn<|zb<|zSr<|zVzMp Z<|zVGvnilCheckO Z<|z8 (zc Yb Z j5 (by decide) Z Z)<|z8 (Gv.loadL (c := .int _ _) (j := 1) jd Z Z ⟨_, .head⟩ Z)<|zVzMf Z<|zVGvlenM j4 Z ?_
  refine zVGveqlI Z Z<|z6<|zz Z (fun ce=>?_) (fun ce=>?_)
  ·have hje : j = (EndsOf f b).length := by rw [hEb]; have h0 : (j : Int) = ((endsL f.blocks[b.toNat].term).length : Int) := (by simpa using ce); omega
   rw [if_pos hje] at hstep
   refine zSr<|z8 (zMo Z)<|zVzMp Z<|zVGvnilCheckO Z<|z8 (zc Yb Z j5 (by decide) Z Z)<|z8 (Gv.loadL (c := .int _ _) (j := 0) jd Z Z ⟨_, .head⟩ Z)<|zn (rows := [[_]]) ps23_1 Z Z Z Z Z<|y5 (k := 1) j4 Zi Z Z Z Z Z (fun _ => .t1) (by rw [cI_len]; omega) (by decide) Z (by show (out.length + 1) * 8 ≤ _; omega) (by show out.length + 1 ≤ _; omega)<|fun i48 => z8 (zAo Z)<|z6<|zSr<|z8 (zMo Z)<|z8 (zMo Z)<|z8 (qj Ya Z)<|z8 (Gv.sub Z Z (by unfold I64; show _ ∧ ((r.length + 1 : Nat) : Int) - 1 ≤ _; omega))<|AOps.cutLast (j := r.length) Ya sizeOf174 Z Z (by show ((r.length + 1 : Nat) : Int) - 1 = _; omega) .head (by decide) (by rw [stC_len])<|z8 (zAo Z)<|z6<|y2 ?_
   exact ⟨(k + 1, i48, il), zR2, ⟨(by rw [hstep, qs]; rfl), (by rw [hstep]; rfl), trivial⟩, ⟨_, (.refl _), by rw [hstep]; dsimp only; rw [← cI_app]; rfl⟩, ⟨hk2, hsn⟩, by exact hmn⟩
  ·have hje : ¬ j = (EndsOf f b).length := by rw [hEb]; have h0 : ¬ (j : Int) = ((endsL f.blocks[b.toNat].term).length : Int) := (by simpa using ce); omega
   have hj2 : j < (endsL f.blocks[b.toNat].term).length := by rw [← hEb]; omega
   rw [if_neg hje] at hstep
   obtain ⟨c, hc⟩ : ∃ c, ge (EndsOf f b) j = c := ⟨_, rfl⟩
   have hcj : (endsL f.blocks[b.toNat].term)[j]? = some c := by rw [← hEb]; unfold ge at hc; rw [← hc, hEb, qm hj2]; rfl
   have hcr := hG.rng b hbr.1 hbr.2 c (by rw [hEb]; exact qv hcj)
   rw [hc] at hstep
   have hgs : seen[c.toNat]? = some (gb seen c) := by unfold gb; rw [qm (by omega)]; rfl
   have hl2 := hG.len b
   rw [hEb] at hl2
   refine ze<|zSr<|zVzMf Z<|zVzMp Z<|zVGvnilCheckO Z<|z8 (zc Yb Z j5 (by decide) Z Z)<|z8 (Gv.loadL (c := .int _ _) (j := 1) jd Z Z ⟨_, .head⟩ Z)<|z8 (zIM j j4 j5 Z Z Z hcj)<|zVzLi jd Z<|zVzAi Z<|z6<|zSr<|zVzMp Z<|zVGvnilCheckO Z<|z8 (zc Yb Z j5 (by decide) Z Z)<|z8 (Gv.loadL (c := .int _ _) (j := 1) jd Z Z ⟨_, .head⟩ Z)<|zVzAd Z Z<|zVGvnilCheckO Z<|z8 (zc Yb Z j5 (by decide) Z Z)<|AOps.storeL (j := 1) (l := [_]) (new := [_, _]) j5 Z Z Z Z Z Z Z .head Z Z Z<|z6<|zSr<|z8 (zMo Z)<|zVzMi Z<|z8 (yj (j := c.toNat) jk Z6 Z Z (by omega) ⟨_, .t2⟩ (by first | rfl | (simp [cI_len, cB_len]; done) | (simp [cI_len, cB_len]; omega)) (by omega))<|z8 (Gv.loadB (j := c.toNat) Yn Z ⟨_, .t2⟩ hgs)<|zVGvnot Z<|z6<|zz Z (fun cs=>?_) (fun cs=>?_)
   ·rw [if_neg (by simpa using cs)] at hstep
    refine zSr<|z8 (zMo Z)<|zVzMi Z<|z8 (yj (j := c.toNat) jk Z6 Z Z (by omega) ⟨_, .t2⟩ (by first | rfl | (simp [cI_len, cB_len]; done) | (simp [cI_len, cB_len]; omega)) (by omega))<|qd (j := c.toNat) Z6 Z Z .t2 (by first | omega | (simp; omega))<|z6<|zRg<|z8 (zMo Z)<|zVzMi Z<|z8 (ye (cps := [(0, [_]), (1, [_])]) (rs := [_, _]) pl174 Z Z Z)<|zn (rows := [[_, _]]) ps175_1 Z Z Z Z Z<|y5 (k := 2) Ya type174 Z Z Z Z Z (fun _ => .head) (by rw [qs, stC_len]; show r.length * 2 + 2 = (r.length + 1) * 2; omega) (by decide) Z (by show (r.length + 1 + 1) * 16 ≤ _; omega) (by show r.length + 1 + 1 ≤ _; omega)<|fun i80 => z8 (zAo Z)<|z6 ?_
    exact ⟨(k + 1, io, i80), zR2, ⟨(by rw [hstep]; rfl), (by rw [hstep]; rfl), trivial⟩, ⟨_, (.refl _), by rw [hstep, stC_cons, stC_cons]; rfl⟩, ⟨hk2, hsn⟩, by exact hmn⟩
   ·rw [if_pos (by simpa using cs)] at hstep
    refine ze ?_
    exact ⟨(k + 1, io, il), zR2, ⟨(by rw [hstep]; rfl), (by rw [hstep]; rfl), trivial⟩, ⟨_, (.refl _), by rw [hstep, stC_cons]; rfl⟩, ⟨hk2, hsn⟩, by exact hmn⟩
end Go.Proofs.YtpojdepccecpgaaGreatDoor
namespace Go.Proofs.YtpojdepccecpgaaGreatDoor
open Go.Proofs.Tryz
section
variable {E : World} {P : Program} {n : Nat} {l : List Oper} {W : Nat → Bool} {Q : AEnv → OL → Prop} {fuel : Nat} {listed : Array Bool} {env : AEnv} {O Os Om : OL}
end
end Go.Proofs.YtpojdepccecpgaaGreatDoor
namespace Go.Proofs.YtpojdepccecpgaaGreatDoor
open Go.Proofs.Tryz
section
variable {E : World} {P : Program} {ops : Array Oper} {K : AEnv → OL → Prop} {env : AEnv} {O O' O'' : OL} {rest : List Oper}
variable {d ty : Nat} {pos : String} {af : Array Edge} {x y z : Operand} {t u e T : TypeId}
end
end Go.Proofs.YtpojdepccecpgaaGreatDoor
namespace Go.Proofs
open Go.Shelf
def Tryz.lays169_ren : Go.Shelf.Ren := ⟨fun | 169 => 66 | n => n, fun | 70 => 103 | 9 => 9 | 0 => 0 | 72 => 106 | 37 => 104 | 127 => 157 | 3 => 3 | 5 => 5 | n => n, fun | n => n⟩
theorem Tryz.lays169 : Go.Proofs.Lays.n169 prog Tryz.lays169_ren := {
 mixed := by kernel_rfl
 f169 := func66.trans (congrArg some (by kernel_rfl))
 t0 := underlying0
 a0 := isAgg0
 z0 := sizeOf0
 v0 := zeroValue0
 t3 := underlying3
 a3 := isAgg3
 z3 := sizeOf3
 v3 := zeroValue3
 t9 := underlying9
 a9 := isAgg9
 z9 := sizeOf9
 v9 := zeroValue9
 t37 := underlying104
 a37 := isAgg104
 z37 := sizeOf104
 v37 := zeroValue104
 t70 := underlying103
 a70 := isAgg103
 z70 := sizeOf103
 v70 := zeroValue103
 t72 := underlying106
 a72 := isAgg106
 z72 := sizeOf106
 v72 := zeroValue106
 t127 := underlying157
 a127 := isAgg157
 z127 := sizeOf157
 v127 := zeroValue157 }
theorem Tryz.Builder_Extra_169 : Builder.Extra prog Tryz.lays169_ren := {
 sizeBuilder := by kernel_rfl
 liesBuilder := by kernel_rfl
 t5 := underlying5
 a5 := isAgg5
 z5 := sizeOf5
 v5 := zeroValue5
 infoByte := by kernel_rfl
 cellsByte := by kernel_rfl
 sizeByte := by kernel_rfl
 neB5 := by decide }
def Tryz.lays156_ren : Go.Shelf.Ren := ⟨fun | 156 => 60 | 165 => 99 | 166 => 59 | 169 => 66 | 240 => 98 | 241 => 140 | 276 => 139 | 277 => 174 | n => n, fun | 31 => 84 | 9 => 9 | 3 => 3 | 4 => 4 | 0 => 0 | 20 => 20 | 72 => 106 | 76 => 109 | 70 => 103 | 37 => 104 | 75 => 108 | 127 => 157 | 164 => 194 | 5 => 5 | 80 => 117 | n => n, fun | n => n⟩
theorem Tryz.lays156 : Go.Proofs.Lays.n156 prog Tryz.lays156_ren := {
 mixed := by kernel_rfl
 f156 := func60.trans (congrArg some (by kernel_rfl))
 f165 := func99.trans (congrArg some (by kernel_rfl))
 f166 := func59.trans (congrArg some (by kernel_rfl))
 f169 := func66.trans (congrArg some (by kernel_rfl))
 f240 := func98.trans (congrArg some (by kernel_rfl))
 f241 := func140.trans (congrArg some (by kernel_rfl))
 f276 := func139.trans (congrArg some (by kernel_rfl))
 f277 := func174.trans (congrArg some (by kernel_rfl))
 t0 := underlying0
 a0 := isAgg0
 z0 := sizeOf0
 v0 := zeroValue0
 t3 := underlying3
 a3 := isAgg3
 z3 := sizeOf3
 v3 := zeroValue3
 t4 := underlying4
 a4 := isAgg4
 z4 := sizeOf4
 v4 := zeroValue4
 t9 := underlying9
 a9 := isAgg9
 z9 := sizeOf9
 v9 := zeroValue9
 t20 := underlying20
 a20 := isAgg20
 z20 := sizeOf20
 v20 := zeroValue20
 t31 := underlying84
 a31 := isAgg84
 z31 := sizeOf84
 v31 := zeroValue84
 t37 := underlying104
 a37 := isAgg104
 z37 := sizeOf104
 v37 := zeroValue104
 t70 := underlying103
 a70 := isAgg103
 z70 := sizeOf103
 v70 := zeroValue103
 t72 := underlying106
 a72 := isAgg106
 z72 := sizeOf106
 v72 := zeroValue106
 t75 := underlying108
 a75 := isAgg108
 z75 := sizeOf108
 v75 := zeroValue108
 t76 := underlying109
 a76 := isAgg109
 z76 := sizeOf109
 v76 := zeroValue109
 t127 := underlying157
 a127 := isAgg157
 z127 := sizeOf157
 v127 := zeroValue157
 t164 := underlying194
 a164 := isAgg194
 z164 := sizeOf194
 v164 := zeroValue194 }
theorem Tryz.Builder_Extra_156 : Builder.Extra prog Tryz.lays156_ren := {
 sizeBuilder := by kernel_rfl
 liesBuilder := by kernel_rfl
 t5 := underlying5
 a5 := isAgg5
 z5 := sizeOf5
 v5 := zeroValue5
 infoByte := by kernel_rfl
 cellsByte := by kernel_rfl
 sizeByte := by kernel_rfl
 neB5 := by decide }
open Go.RowKit in
theorem Tryz.strings_Join_none (a : Option Addr) (c : Nat) (sep : ByteArray) (w : World) :
  Calls prog 60 #[.slice a 0 c, .string sep] w fun e w' => e = .returned (.string ⟨#[]⟩) ∧ w' = w := Any.strings_Join_none Tryz.lays156 Tryz.Builder_Extra_156 a c sep w
open Go.RowKit in
theorem Tryz.strings_Join (bk o c : Nat) (xs : List ByteArray) (sep : ByteArray) (w : World) (hcells : ∀ (j : Nat) x, xs[j]? = some x → w.cell? ⟨bk, o + j, none⟩ = some (.string x)) (hbk : bk < w.heap.size) (hN : xs.length ≤ 140737488355328) (hcap : xs.length ≤ c) (hlen : (Lib.join (xs.map (·.data.toList)) sep.data.toList).length ≤ 140737488355328) :
  Calls prog 60 #[.slice (some ⟨bk, o, none⟩) xs.length c, .string sep] w fun e w' => e = .returned (.string ⟨(Lib.join (xs.map (·.data.toList)) sep.data.toList).toArray⟩) ∧ Below w.heap.size w w' := Any.strings_Join Tryz.lays156 Tryz.Builder_Extra_156 bk o c xs sep w hcells hbk hN hcap hlen
def Tryz.lays122_ren : Go.Shelf.Ren := ⟨fun | 122 => 88 | 215 => 124 | n => n, fun | 3 => 3 | 4 => 4 | n => n, fun | n => n⟩
theorem Tryz.lays122 : Go.Proofs.Lays.n122 prog Tryz.lays122_ren := {
 mixed := by kernel_rfl
 f122 := func88.trans (congrArg some (by kernel_rfl))
 f215 := func124.trans (congrArg some (by kernel_rfl))
 t3 := underlying3
 a3 := isAgg3
 z3 := sizeOf3
 v3 := zeroValue3
 t4 := underlying4
 a4 := isAgg4
 z4 := sizeOf4
 v4 := zeroValue4 }
open Go.RowKit in
theorem Tryz.cmp_Compare_int (x y : Int) (w : World) :
  Calls prog 88 #[.int .i64 x, .int .i64 y] w fun e w' => e = .returned (.int .i64 (Lib.compareInt x y)) ∧ w' = w := Any.cmp_Compare_int Tryz.lays122 x y w
def Tryz.laysM171_ren : Go.Shelf.Ren := ⟨fun | 171 => 28 | 243 => 56 | 246 => 89 | 283 => 125 | 284 => 126 | 285 => 127 | 286 => 128 | 129 => 157 | 317 => 166 | 318 => 167 | 319 => 168 | 320 => 169 | 337 => 186 | 338 => 187 | n => n, fun | 3 => 3 | 9 => 9 | 2 => 2 | 4 => 4 | 171 => 179 | 0 => 0 | 53 => 53 | 37 => 104 | 5 => 5 | 173 => 182 | 212 => 217 | 51 => 210 | 20 => 20 | 213 => 218 | 46 => 132 | 232 => 251 | 233 => 252 | n => n, fun | 17 => 0 | 18 => 4 | 19 => 5 | n => n⟩
theorem Tryz.laysM171 : Go.Proofs.LaysM.n171 prog Tryz.laysM171_ren := {
 mixed := by kernel_rfl
 f129 := func157.trans (congrArg some (by kernel_rfl))
 f171 := func28.trans (congrArg some (by kernel_rfl))
 f243 := func56.trans (congrArg some (by kernel_rfl))
 f246 := func89.trans (congrArg some (by kernel_rfl))
 f283 := func125.trans (congrArg some (by kernel_rfl))
 f284 := func126.trans (congrArg some (by kernel_rfl))
 f285 := func127.trans (congrArg some (by kernel_rfl))
 f286 := func128.trans (congrArg some (by kernel_rfl))
 f317 := func166.trans (congrArg some (by kernel_rfl))
 f318 := func167.trans (congrArg some (by kernel_rfl))
 f319 := func168.trans (congrArg some (by kernel_rfl))
 f320 := func169.trans (congrArg some (by kernel_rfl))
 f337 := func186.trans (congrArg some (by kernel_rfl))
 f338 := func187.trans (congrArg some (by kernel_rfl))
 t0 := underlying0
 a0 := isAgg0
 z0 := sizeOf0
 v0 := zeroValue0
 t2 := underlying2
 a2 := isAgg2
 z2 := sizeOf2
 v2 := zeroValue2
 t3 := underlying3
 a3 := isAgg3
 z3 := sizeOf3
 v3 := zeroValue3
 t4 := underlying4
 a4 := isAgg4
 z4 := sizeOf4
 v4 := zeroValue4
 t5 := underlying5
 a5 := isAgg5
 z5 := sizeOf5
 v5 := zeroValue5
 t9 := underlying9
 a9 := isAgg9
 z9 := sizeOf9
 v9 := zeroValue9
 t20 := underlying20
 a20 := isAgg20
 z20 := sizeOf20
 v20 := zeroValue20
 t37 := underlying104
 a37 := isAgg104
 z37 := sizeOf104
 v37 := zeroValue104
 t46 := underlying132
 a46 := isAgg132
 z46 := sizeOf132
 v46 := zeroValue132
 t51 := underlying210
 a51 := isAgg210
 z51 := sizeOf210
 v51 := zeroValue210
 t53 := underlying53
 a53 := isAgg53
 z53 := sizeOf53
 v53 := zeroValue53
 t171 := underlying179
 a171 := isAgg179
 z171 := sizeOf179
 v171 := zeroValue179
 t173 := underlying182
 a173 := isAgg182
 z173 := sizeOf182
 v173 := zeroValue182
 t212 := underlying217
 a212 := isAgg217
 z212 := sizeOf217
 v212 := zeroValue217
 t213 := underlying218
 a213 := isAgg218
 z213 := sizeOf218
 t232 := underlying251
 a232 := isAgg251
 z232 := sizeOf251
 v232 := zeroValue251
 t233 := underlying252
 a233 := isAgg252
 z233 := sizeOf252
 v233 := zeroValue252
 g17 := by kernel_rfl
 g18 := by kernel_rfl
 g19 := by kernel_rfl
 i0 := by kernel_rfl
 i2 := by kernel_rfl
 i3 := by kernel_rfl
 i4 := by kernel_rfl
 i5 := by kernel_rfl
 i9 := by kernel_rfl
 i20 := by kernel_rfl
 i37 := by kernel_rfl
 i46 := by kernel_rfl
 i51 := by kernel_rfl
 i53 := by kernel_rfl
 i171 := by kernel_rfl
 i173 := by kernel_rfl
 i212 := by kernel_rfl
 i232 := by kernel_rfl
 i233 := by kernel_rfl
 m17 := by kernel_rfl
 m18 := by kernel_rfl
 m19 := by kernel_rfl }
open Go.RowKit Go.Sort Go.Lib in
theorem Tryz.strconv_Itoa (n : Int) (h0 : -9223372036854775808 ≤ n) (h1 : n ≤ 9223372036854775807) (w : World) (htab : Lib.TabIs prog w "internal/strconv.uint64pow10" .u64 Lib.pow10Tab) :
  Calls prog 28 #[.int .i64 n] w fun e w' => e = .returned (.string ⟨(Lib.itoa n).toArray⟩) ∧ ∃ k os, w' = grow (w.drewN k) os := Any.strconv_Itoa Tryz.laysM171 n h0 h1 w htab
def Tryz.laysM173_ren : Go.Shelf.Ren := ⟨fun | 173 => 103 | 246 => 89 | 283 => 125 | 284 => 126 | 285 => 127 | 286 => 128 | 129 => 157 | 317 => 166 | 318 => 167 | 319 => 168 | 320 => 169 | 337 => 186 | 338 => 187 | n => n, fun | 2 => 2 | 3 => 3 | 9 => 9 | 4 => 4 | 171 => 179 | 0 => 0 | 53 => 53 | 37 => 104 | 5 => 5 | 173 => 182 | 212 => 217 | 51 => 210 | 20 => 20 | 213 => 218 | 46 => 132 | 232 => 251 | 233 => 252 | n => n, fun | 17 => 0 | 18 => 4 | 19 => 5 | n => n⟩
theorem Tryz.laysM173 : Go.Proofs.LaysM.n173 prog Tryz.laysM173_ren := {
 mixed := by kernel_rfl
 f129 := func157.trans (congrArg some (by kernel_rfl))
 f173 := func103.trans (congrArg some (by kernel_rfl))
 f246 := func89.trans (congrArg some (by kernel_rfl))
 f283 := func125.trans (congrArg some (by kernel_rfl))
 f284 := func126.trans (congrArg some (by kernel_rfl))
 f285 := func127.trans (congrArg some (by kernel_rfl))
 f286 := func128.trans (congrArg some (by kernel_rfl))
 f317 := func166.trans (congrArg some (by kernel_rfl))
 f318 := func167.trans (congrArg some (by kernel_rfl))
 f319 := func168.trans (congrArg some (by kernel_rfl))
 f320 := func169.trans (congrArg some (by kernel_rfl))
 f337 := func186.trans (congrArg some (by kernel_rfl))
 f338 := func187.trans (congrArg some (by kernel_rfl))
 t0 := underlying0
 a0 := isAgg0
 z0 := sizeOf0
 v0 := zeroValue0
 t2 := underlying2
 a2 := isAgg2
 z2 := sizeOf2
 v2 := zeroValue2
 t3 := underlying3
 a3 := isAgg3
 z3 := sizeOf3
 v3 := zeroValue3
 t4 := underlying4
 a4 := isAgg4
 z4 := sizeOf4
 v4 := zeroValue4
 t5 := underlying5
 a5 := isAgg5
 z5 := sizeOf5
 v5 := zeroValue5
 t9 := underlying9
 a9 := isAgg9
 z9 := sizeOf9
 v9 := zeroValue9
 t20 := underlying20
 a20 := isAgg20
 z20 := sizeOf20
 v20 := zeroValue20
 t37 := underlying104
 a37 := isAgg104
 z37 := sizeOf104
 v37 := zeroValue104
 t46 := underlying132
 a46 := isAgg132
 z46 := sizeOf132
 v46 := zeroValue132
 t51 := underlying210
 a51 := isAgg210
 z51 := sizeOf210
 v51 := zeroValue210
 t53 := underlying53
 a53 := isAgg53
 z53 := sizeOf53
 v53 := zeroValue53
 t171 := underlying179
 a171 := isAgg179
 z171 := sizeOf179
 v171 := zeroValue179
 t173 := underlying182
 a173 := isAgg182
 z173 := sizeOf182
 v173 := zeroValue182
 t212 := underlying217
 a212 := isAgg217
 z212 := sizeOf217
 v212 := zeroValue217
 t213 := underlying218
 a213 := isAgg218
 z213 := sizeOf218
 t232 := underlying251
 a232 := isAgg251
 z232 := sizeOf251
 v232 := zeroValue251
 t233 := underlying252
 a233 := isAgg252
 z233 := sizeOf252
 v233 := zeroValue252
 g17 := by kernel_rfl
 g18 := by kernel_rfl
 g19 := by kernel_rfl
 i0 := by kernel_rfl
 i2 := by kernel_rfl
 i3 := by kernel_rfl
 i4 := by kernel_rfl
 i5 := by kernel_rfl
 i9 := by kernel_rfl
 i20 := by kernel_rfl
 i37 := by kernel_rfl
 i46 := by kernel_rfl
 i51 := by kernel_rfl
 i53 := by kernel_rfl
 i171 := by kernel_rfl
 i173 := by kernel_rfl
 i212 := by kernel_rfl
 i232 := by kernel_rfl
 i233 := by kernel_rfl
 m17 := by kernel_rfl
 m18 := by kernel_rfl
 m19 := by kernel_rfl }
open Go.RowKit Go.Sort Go.Lib in
theorem Tryz.strconv_FormatInt_10 (n : Int) (h0 : -9223372036854775808 ≤ n) (h1 : n ≤ 9223372036854775807) (w : World) (htab : Lib.TabIs prog w "internal/strconv.uint64pow10" .u64 Lib.pow10Tab) :
  Calls prog 103 #[.int .i64 n, .int .i64 10] w fun e w' => e = .returned (.string ⟨(Lib.itoa n).toArray⟩) ∧ ∃ k os, w' = grow (w.drewN k) os := Any.strconv_FormatInt_10 Tryz.laysM173 n h0 h1 w htab
def Tryz.lays189_ren : Go.Shelf.Ren := ⟨fun | 189 => 82 | 125 => 120 | 257 => 119 | 128 => 156 | 129 => 157 | 294 => 147 | 295 => 148 | 296 => 149 | 297 => 150 | 298 => 151 | 299 => 152 | 216 => 153 | 300 => 154 | 301 => 155 | 328 => 178 | 329 => 179 | 330 => 180 | 331 => 181 | 332 => 182 | 215 => 124 | 343 => 193 | n => n, fun | 28 => 23 | 3 => 3 | 46 => 132 | 0 => 0 | 51 => 210 | 53 => 53 | 4 => 4 | 183 => 204 | 182 => 203 | 131 => 145 | 5 => 5 | 9 => 9 | 218 => 228 | 222 => 232 | 228 => 247 | 229 => 248 | n => n, fun | n => n⟩
theorem Tryz.lays189 : Go.Proofs.Lays.n189 prog Tryz.lays189_ren := {
 mixed := by kernel_rfl
 f125 := func120.trans (congrArg some (by kernel_rfl))
 f128 := func156.trans (congrArg some (by kernel_rfl))
 f129 := func157.trans (congrArg some (by kernel_rfl))
 f189 := func82.trans (congrArg some (by kernel_rfl))
 f215 := func124.trans (congrArg some (by kernel_rfl))
 f216 := func153.trans (congrArg some (by kernel_rfl))
 f257 := func119.trans (congrArg some (by kernel_rfl))
 f294 := func147.trans (congrArg some (by kernel_rfl))
 f295 := func148.trans (congrArg some (by kernel_rfl))
 f296 := func149.trans (congrArg some (by kernel_rfl))
 f297 := func150.trans (congrArg some (by kernel_rfl))
 f298 := func151.trans (congrArg some (by kernel_rfl))
 f299 := func152.trans (congrArg some (by kernel_rfl))
 f300 := func154.trans (congrArg some (by kernel_rfl))
 f301 := func155.trans (congrArg some (by kernel_rfl))
 f328 := func178.trans (congrArg some (by kernel_rfl))
 f329 := func179.trans (congrArg some (by kernel_rfl))
 f330 := func180.trans (congrArg some (by kernel_rfl))
 f331 := func181.trans (congrArg some (by kernel_rfl))
 f332 := func182.trans (congrArg some (by kernel_rfl))
 f343 := func193.trans (congrArg some (by kernel_rfl))
 t0 := underlying0
 a0 := isAgg0
 z0 := sizeOf0
 v0 := zeroValue0
 t3 := underlying3
 a3 := isAgg3
 z3 := sizeOf3
 v3 := zeroValue3
 t4 := underlying4
 a4 := isAgg4
 z4 := sizeOf4
 v4 := zeroValue4
 t5 := underlying5
 a5 := isAgg5
 z5 := sizeOf5
 v5 := zeroValue5
 t9 := underlying9
 a9 := isAgg9
 z9 := sizeOf9
 v9 := zeroValue9
 t28 := underlying23
 a28 := isAgg23
 z28 := sizeOf23
 v28 := zeroValue23
 t46 := underlying132
 a46 := isAgg132
 z46 := sizeOf132
 v46 := zeroValue132
 t51 := underlying210
 a51 := isAgg210
 z51 := sizeOf210
 v51 := zeroValue210
 t53 := underlying53
 a53 := isAgg53
 z53 := sizeOf53
 v53 := zeroValue53
 t131 := underlying145
 a131 := isAgg145
 z131 := sizeOf145
 v131 := zeroValue145
 t182 := underlying203
 a182 := isAgg203
 z182 := sizeOf203
 v182 := zeroValue203
 t183 := underlying204
 a183 := isAgg204
 z183 := sizeOf204
 v183 := zeroValue204
 t218 := underlying228
 a218 := isAgg228
 z218 := sizeOf228
 v218 := zeroValue228
 t222 := underlying232
 a222 := isAgg232
 z222 := sizeOf232
 v222 := zeroValue232
 t228 := underlying247
 a228 := isAgg247
 z228 := sizeOf247
 v228 := zeroValue247
 t229 := underlying248
 a229 := isAgg248
 z229 := sizeOf248
 v229 := zeroValue248 }
open Go.Sort Go.RowKit in
theorem Tryz.slices_Sort_int (blk off cap : Nat) (zs : List Int) (w : World) (hH : Holds (Value.int .i64) w blk off zs.toArray) (hblk : blk < w.heap.size) (hsz : zs.length < 4611686018427387904) :
  Calls prog 82 #[.slice (some ⟨blk, off, none⟩) zs.length cap] w fun e w' =>
   e = .returned (.tuple #[]) ∧ ∃ n os, w' = grow (putRow (Value.int .i64) (Sort.ahead w n) blk off (zs.mergeSort fun x y => decide (x ≤ y)).toArray) os := Any.slices_Sort_int Tryz.lays189 blk off cap zs w hH hblk hsz
def Tryz.lays200_ren : Go.Shelf.Ren := ⟨fun | 200 => 142 | 261 => 177 | 311 => 191 | 312 => 192 | n => n, fun | 21 => 21 | 4 => 4 | 51 => 210 | 5 => 5 | 119 => 225 | 0 => 0 | 141 => 227 | 196 => 240 | 193 => 237 | 3 => 3 | 198 => 242 | 49 => 41 | 194 => 238 | 201 => 245 | 226 => 253 | 46 => 132 | 227 => 254 | n => n, fun | 7 => 1 | 8 => 2 | n => n⟩
theorem Tryz.lays200 : Go.Proofs.Lays.n200 prog Tryz.lays200_ren := {
 mixed := by kernel_rfl
 f200 := func142.trans (congrArg some (by kernel_rfl))
 f261 := func177.trans (congrArg some (by kernel_rfl))
 f311 := func191.trans (congrArg some (by kernel_rfl))
 f312 := func192.trans (congrArg some (by kernel_rfl))
 t0 := underlying0
 a0 := isAgg0
 z0 := sizeOf0
 v0 := zeroValue0
 t3 := underlying3
 a3 := isAgg3
 z3 := sizeOf3
 v3 := zeroValue3
 t4 := underlying4
 a4 := isAgg4
 z4 := sizeOf4
 v4 := zeroValue4
 t5 := underlying5
 a5 := isAgg5
 z5 := sizeOf5
 v5 := zeroValue5
 t21 := underlying21
 a21 := isAgg21
 z21 := sizeOf21
 v21 := zeroValue21
 t46 := underlying132
 a46 := isAgg132
 z46 := sizeOf132
 v46 := zeroValue132
 t49 := underlying41
 a49 := isAgg41
 z49 := sizeOf41
 v49 := zeroValue41
 t51 := underlying210
 a51 := isAgg210
 z51 := sizeOf210
 v51 := zeroValue210
 t119 := underlying225
 a119 := isAgg225
 z119 := sizeOf225
 t141 := underlying227
 a141 := isAgg227
 z141 := sizeOf227
 v141 := zeroValue227
 t193 := underlying237
 a193 := isAgg237
 z193 := sizeOf237
 v193 := zeroValue237
 t194 := underlying238
 a194 := isAgg238
 z194 := sizeOf238
 v194 := zeroValue238
 t196 := underlying240
 a196 := isAgg240
 z196 := sizeOf240
 v196 := zeroValue240
 t198 := underlying242
 a198 := isAgg242
 z198 := sizeOf242
 v198 := zeroValue242
 t201 := underlying245
 a201 := isAgg245
 z201 := sizeOf245
 v201 := zeroValue245
 t226 := underlying253
 a226 := isAgg253
 z226 := sizeOf253
 v226 := zeroValue253
 t227 := underlying254
 a227 := isAgg254
 z227 := sizeOf254
 v227 := zeroValue254
 g7 := by kernel_rfl
 g8 := by kernel_rfl }
open Go.RowKit Go.Lib in
theorem Tryz.unicode_IsLetter_all (r : Int) (w : World) (hlo : -2147483648 ≤ r) (hhi : r ≤ 2147483647) (htab : Lib.TabIs prog w "unicode.properties" .u8 Lib.propertiesTab) (hV : RVar 2 letterT w) :
  Calls prog 142 #[.int .i32 r] w fun e w' => e = .returned (.bool (isLetterU r)) ∧ Below w.heap.size w w' := Any.unicode_IsLetter_all Tryz.lays200 (by kernel_rfl) r w hlo hhi htab hV
def Tryz.lays112_ren : Go.Shelf.Ren := ⟨fun | 112 => 121 | n => n, fun | 28 => 23 | 3 => 3 | 4 => 4 | 0 => 0 | n => n, fun | n => n⟩
theorem Tryz.lays112 : Go.Proofs.Lays.n112 prog Tryz.lays112_ren := {
 mixed := by kernel_rfl
 f112 := func121.trans (congrArg some (by kernel_rfl))
 t0 := underlying0
 a0 := isAgg0
 z0 := sizeOf0
 v0 := zeroValue0
 t3 := underlying3
 a3 := isAgg3
 z3 := sizeOf3
 v3 := zeroValue3
 t4 := underlying4
 a4 := isAgg4
 z4 := sizeOf4
 v4 := zeroValue4
 t28 := underlying23
 a28 := isAgg23
 z28 := sizeOf23
 v28 := zeroValue23 }
open Go.RowKit Go.Lib Go.Sort in
theorem Tryz.slices_Reverse_int (blk off cap : Nat) (zs : List Int) (w : World) (hH : Holds (Value.int .i64) w blk off zs.toArray) (hsz : zs.length ≤ 9223372036854775807) :
  Calls prog 121 #[.slice (some ⟨blk, off, none⟩) zs.length cap] w fun e w' => e = .returned (.tuple #[]) ∧ ∃ n, w' = putRow (Value.int .i64) (Sort.ahead w n) blk off zs.reverse.toArray := Any.slices_Reverse_int Tryz.lays112 blk off cap zs w hH hsz
open Go.RowKit Go.Lib Go.Sort in
theorem Tryz.slices_Reverse_int_empty (a : Option Addr) (cap : Nat) (w : World) :
  Calls prog 121 #[.slice a 0 cap] w fun e w' => e = .returned (.tuple #[]) ∧ w' = w := Any.slices_Reverse_int_empty Tryz.lays112 a cap w
open Go.RowKit Go.Sort in
theorem Tryz.slices_Sort_int_none (p : Option Addr) (cap : Nat) (w : World) :
  Calls prog 82 #[.slice p 0 cap] w fun e w' => e = .returned (.tuple #[]) ∧ w' = w := Any.slices_Sort_int_none Tryz.lays189 p cap w
end Go.Proofs
namespace Go.Proofs.YtpojdepccecpgaaGreatDoor
open Go.Proofs.Tryz
open Go.Proofs
variable {E : World}
set_option maxRecDepth 20000
theorem reverse_own (l : List Int) (i : Nat) (T : TypeId) (hl : l.length ≤ 200000) : ACall prog E 121 [.own i l.length] [(i, .grow 1 T (cI l))] fun r O => r = .tup [] ∧ O = [(i, .grow 1 T (cI l.reverse))] :=
 ACall.turned (g := List.reverse) (B := 200001) func121 rfl (by decide) (fun l => List.length_reverse) (fun blk cap zs w hH _ hz => (Tryz.slices_Reverse_int blk 0 cap zs w hH (by omega)).mono fun e w' ⟨h1, n, h2⟩ => ⟨h1, n, #[], by rw [h2, Go.Sort.grow_empty]⟩)
  (fun cap w => Tryz.slices_Reverse_int_empty none cap w) rfl (by omega)
theorem sort_own (l : List Int) (i : Nat) (T : TypeId) (hl : l.length ≤ 200000) : ACall prog E 82 [.own i l.length] [(i, .grow 1 T (cI l))] fun r O => r = .tup [] ∧ O = [(i, .grow 1 T (cI (sortI l)))] :=
 ACall.turned (g := sortI) (B := 200001) func82 rfl (by decide) (fun l => (sortI_perm l).length_eq) (fun blk cap zs w hH hb hz => Tryz.slices_Sort_int blk 0 cap zs w hH hb (by omega))
  (fun cap w => Tryz.slices_Sort_int_none none cap w) rfl (by omega)
end Go.Proofs.YtpojdepccecpgaaGreatDoor
