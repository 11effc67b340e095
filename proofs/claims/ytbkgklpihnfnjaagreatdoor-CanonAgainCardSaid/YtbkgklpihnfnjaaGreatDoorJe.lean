/- Go's library on slices of numbers: reversed, sorted, repeated. No conditions but bounds. -/
import Derived.Test.YtbkgklpihnfnjaaGreatDoorJc
import Derived.Test.YtbkgklpihnfnjaaGreatDoorJd
import Derived.Sort.Grow
import Derived.Laws.CopyRow
import Derived.Shelf.Strings.Builder1
import Derived.Shelf.Strings.Builder2
import Derived.Shelf.Strings.OnBuilder
import Derived.Shelf.Small.Bits
import Derived.Shelf.Small.Wraps
import Derived.Shelf.Utf8.RuneCount
import Derived.Shelf.Strconv.Itoa0
import Derived.Shelf.Strconv.Itoa1
import Derived.Shelf.LaysM
import Derived.Shelf.Strconv.Itoa2
import Derived.Shelf.Strconv.Itoa3
import Derived.Shelf.Strconv.Itoa4
import Derived.Shelf.Strconv.ParseIntEmpty
import Derived.Shelf.Strconv.Clone
import Derived.Shelf.Strconv.SyntaxError
import Derived.Shelf.LaysC
import Derived.Shelf.Strconv.ToError
import Derived.Shelf.Strconv.Lower
import Derived.Shelf.Strconv.ParseUint10
import Derived.Shelf.Strconv.ParseUint10Empty
import Derived.Shelf.Strconv.ParseUint10Any
import Derived.Shelf.Strconv.ParseInt10
import Derived.Shelf.Strconv.RangeError
import Derived.Shelf.Strconv.ToErrorRange
import Derived.Shelf.Strconv.ParseUintEmpty
import Derived.Shelf.Strconv.ParseUint10b64
import Derived.Shelf.Strconv.ParseUint10b32
import Derived.Shelf.Strconv.ParseUint10b16
import Derived.Shelf.Strconv.ParseUint10b8
import Derived.Shelf.Strconv.ParseInt10At64
import Derived.Shelf.Strconv.ParseInt10All
import Derived.Shelf.Strconv.ParseIntPublic10
import Derived.Shelf.Strconv.ErrVarParseInt
import Derived.Shelf.Strings.Search1
import Derived.Shelf.Strings.Search2
import Derived.Shelf.Strings.Search3
import Derived.Shelf.Strings.Cut
import Derived.Shelf.Strings.Count
import Derived.Shelf.Strings.Shaped
import Derived.Shelf.Sort.Plain
import Derived.Shelf.Strings.Split
import Derived.Shelf.Strings.SplitShaped
import Derived.Shelf.Unicode.Props
import Derived.Shelf.Unicode.PropsLaid
import Derived.Shelf.Unicode.Decode
import Derived.Shelf.Strings.RuneCount
import Derived.Shelf.Strings.Explode
import Derived.Shelf.Unicode.DecodeSlow
import Derived.Shelf.Unicode.DecodeAny
import Derived.Shelf.Unicode.Is16White
import Derived.Shelf.Unicode.IsSpaceAny
import Derived.Shelf.Unicode.Is16WhiteD
import Derived.Shelf.Unicode.Is16Any
import Derived.Shelf.Unicode.Is32Any
import Derived.Shelf.Unicode.ExclAny
import Derived.Shelf.Unicode.PredsAny
import Derived.Shelf.Unicode.PredsPay
import Derived.Shelf.Slices.Turned
import Derived.Shelf.Slices.Reverse
import Derived.Shelf.Slices.Equal
import Derived.Ground.Names2Prog
import Derived.Shelf.Slices.Clone
import Derived.Shelf.Slices.SearchI
import Derived.Shelf.Slices.Cells
import Derived.Shelf.Slices.In.SortNone
import Derived.Shelf.Slices.Empties2
import Derived.Ground.SlgnProg
import Derived.Shelf.SlicesE.Reverse
import Derived.Shelf.SlicesE.Clone
import Derived.Shelf.Unicode.ValidAny
import Derived.Shelf.SlSortCmp.WholeK
import Derived.Ground.SlsfProg
import Derived.Test.YtbkgklpihnfnjaaGreatDoorChecked
set_option linter.unusedVariables false
set_option linter.unusedSimpArgs false
set_option linter.unusedSectionVars false
namespace Go.Proofs.YtbkgklpihnfnjaaGreatDoor
open Go.Proofs.Tryz
open Go.Proofs
variable {E : World}
set_option maxRecDepth 20000
theorem indexFuncJ_spec {p : Int → Bool} {fn : FuncId} {c : List AV} (xs : List Int) (hl : xs.length ≤ 281474976710656) (hp : ∀ x ∈ xs, AFun prog E fn ([.int .i64 x] ++ c) (.bool (p x))) :
  AFun prog E 173 [.fro 1 (xs.map encI), .fn fn [] c] (.int .i64 (firstI p xs 0)) := by
 refine zk func173 Z (by decide) Z<|zSr<|zVzAi Z<|z6<|zb<|zSr<|zVzMf Z<|zVGvlenM j9 Z<|zVzMi Z<|z6<|zg<|y3 (γ := Nat) [0, 1, 7] (fun k => [(8, .int .i64 k)]) (fun k => []) (fun k => k ≤ xs.length ∧ (xs.take k).all (fun x => !p x)) (fun k => xs.length - k) 0 zR1 zLe (⟨qg _, Z⟩) ?_
 rintro k ⟨hk, hall⟩
 refine zSr<|zVGvlss Z Z<|z6<|zb<|zr Z (fun ck=>?_) (fun ck=>?_)
 ·have hk2 : k < xs.length := by omega
  refine zf<|zb<|zg<|zSr<|zVzMi Z<|zVzAi Z<|z6<|zSr<|z8 (y9 (v := .fn _ _ _) Z)<|zVzMf Z<|zVzMi Z<|z8 (yi j9 jd Z Z Z (qd (by omega)))<|zVzLi jr Z<|AOps.callVP Z (hp _ (qh hk2)) Z<|z6<|zz Z (fun cp=>?_) (fun cp=>?_)
  ·refine zSr<|zVzMi Z<|zVzAi Z<|z6<|ze<|zi (x := .int _ _) Z ?_
   rw [firstI_drop p xs k hk hall, List.drop_eq_getElem_cons hk2, firstI, if_pos cp]
  ·refine zf<|zRg<|zVzAd Z Z<|zVzMi Z<|z6 ?_
   exact ⟨k + 1, zR3, zR1, zLe, ⟨hk2, by rw [qe hk2, List.all_append, hall]; simp [cp]⟩, by omega⟩
 ·have hkn : k = xs.length := by omega
  refine y2<|zSr<|zVzAi Z<|z6<|ze<|zi (x := .int _ _) Z ?_
  rw [firstI_drop p xs k hk hall, hkn, List.drop_length, firstI]
theorem containsFuncJ_spec {p : Int → Bool} {fn : FuncId} {c : List AV} (xs : List Int) (hl : xs.length ≤ 281474976710656) (hp : ∀ x ∈ xs, AFun prog E fn ([.int .i64 x] ++ c) (.bool (p x))) :
  AFun prog E 124 [.fro 1 (xs.map encI), .fn fn [] c] (.bool (xs.any p)) := by
 refine zk func124 Z (by decide) Z<|zSr<|zVzAb Z<|z6<|zSr<|zVzMf Z<|z8 (y9 (v := .fn _ _ _) Z)<|zd (indexFuncJ_spec xs hl hp) Z<|z8 (qc Z Z)<|zVzAb Z<|z6<|ze<|zi (x := .bool _) Z ?_
 rw [firstI_ge]
def kindV (f : PFunc) (v : Int) : Int := ((f.vars[v.toNat]?).map (·.ty)).getD 0
theorem hasV_get {f : PFunc} {v : Int} (h : hasV f v = true) : ∃ x, f.vars[v.toNat]? = some x ∧ v = (v.toNat : Int) ∧ kindV f v = x.ty := by
 unfold hasV at h
 simp only [qs, qu] at h
 have hl : v.toNat < f.vars.length := by omega
 refine ⟨f.vars[v.toNat], qd hl, by omega, ?_⟩
 unfold kindV; rw [qd hl]; rfl
theorem kind_spec (f : PFunc) (v : Int) (hv : hasV f v = true) : AFun prog E 147 [.agg (encF f), .int .i64 v] (.int .i64 (kindV f v)) := by
 obtain ⟨x, hx, hv2, hk⟩ := hasV_get hv
 rw [hk]
 refine zk func147 Z (by decide) Z<|zSr<|y6 (cs := _) Z Z Z<|zVzAi Z<|z6<|zSr<|zVzFF jc Z Z9 Z Z<|zVzLf Zn Z<|zVzMi Z<|z8 (zIM v.toNat js Zd Z Z hv2 hx)<|zVzFF Zf Z Xh Z Z<|zVzLi isAgg36 Z<|zVzAi Z<|z6<|ze<|zi (x := .int _ _) Z ?_
 rfl
theorem any_spec (op : Int) : AFun prog E 148 [.int .i64 op] (.bool (decide (op = 1))) := by
 refine zk func148 Z (by decide) Z<|zSr<|zVzAb Z<|z6<|zSr<|zVzMi Z<|zVGveqlI Z Z<|zVzAb Z<|z6<|ze<|zi (x := .bool _) Z ?_
 simp_all
theorem headD_at : ∀ {l : List Int} (h : 0 < l.length), l.headD 0 = l[0]
 | [], h => absurd h (Nat.lt_irrefl 0)
 | _ :: _, _ => rfl
def instT (f : PFunc) (x : PInst) : Bool := if x.op = 1 then decide (kindV f x.dst = kindV f (x.args.headD 0)) else decide (x.args.map (kindV f) = takesL x.op) && (!makesB x.op || decide (kindV f x.dst = makesT x.op))
theorem map_take_succ {f : PFunc} {xs ts : List Int} {k : Nat} (h1 : k < xs.length) (h2 : k < ts.length) (h : (xs.take k).map (kindV f) = ts.take k) (hk : kindV f xs[k] = ts[k]) : (xs.take (k + 1)).map (kindV f) = ts.take (k + 1) := by
 rw [qe h1, qe h2, qo, h, List.map_cons, List.map_nil, hk]
theorem map_ne {f : PFunc} {xs ts : List Int} {k : Nat} (h1 : k < xs.length) (h2 : k < ts.length) (hk : ¬ kindV f xs[k] = ts[k]) : ¬ xs.map (kindV f) = ts := by
 intro e
 apply hk
 subst e
 rw [List.getElem_map]
theorem yinst_spec (f : PFunc) (x : PInst) (ha : x.args.all (hasV f) = true) (hl : x.args.length = (takesL x.op).length) (hd : makesB x.op = true → hasV f x.dst = true) :
  AFun prog E 108 [.agg (encF f), .agg (encInst x)] (.bool (instT f x)) := by
 have hlen : (takesL x.op).length ≤ 3 := by
  rcases kRow_mem x.op with h | h
  ·unfold takesL; rw [h]; decide
  ·have : ∀ r ∈ kindT, r.2.1.data.toList.length ≤ 3 := by decide
   have := this _ h
   unfold takesL; simpa using this
 refine zk func108 Z (by decide) Z<|zSr<|y6 (cs := _) Z Z Z<|y6 (cs := _) Z Z Z<|zVzAb Z<|z6<|zb<|zSr<|zVzFF jk Z Zx Z Z<|zVzLi Y8 Z<|zd (any_spec _) Z<|z6<|zr Z (fun c1=>?_) (fun c1=>?_)
 ·have e1 : x.op = 1 := by simpa using c1
  have hlz : 0 < x.args.length := by rw [hl, e1]; decide
  have hv0 : hasV f x.args[0] = true := List.all_eq_true.1 ha _ (qh hlz)
  have hvd : hasV f x.dst = true := hd (by rw [e1]; decide)
  refine zb<|zw (fun j => false) (by kernel_rfl) Z (zu (.rest _))<|zTk 0 Z (yq ju jj Z Z)<|zTk 1 Z (zFF jk Z jd Z Z)<|zTk 2 Z (zLi jr Z)<|zTk 4 Z (yq ju jj Z Z)<|zTk 5 Z (zFF jk Z jn Z Z)<|zTk 6 Z (zLf jz Z)<|zTk 7 Z (zIM 0 j9 jd Z Z Z (qd hlz))<|zTk 8 Z (zLi jr Z)<|zOn 3 Z<|zd (kind_spec _ _ (by assumption)) Z<|z6<|zOn 9 Z<|zd (kind_spec _ _ (by assumption)) Z<|z6<|zTk 10 Z (Gv.eqlI Z Z)<|zTk 11 Z (zAb Z)<|zDn<|ze<|zi (x := .bool _) Z ?_
  exact jb (by unfold instT; rw [if_pos e1, headD_at hlz])
 ·have e1 : ¬ x.op = 1 := by simpa using c1
  refine zf<|zb<|zSr<|zVzFF jk Z Zx Z Z<|zVzLi Y8 Z<|zd (takes_spec _) Z<|zVGvlenM X4 Z<|zVzMi Z<|z6<|zg<|y3 (γ := Nat) [2, 3, 25, 26] (fun k => [(27, .int .i64 k)]) (fun k => []) (fun k => k ≤ (takesL x.op).length ∧ (x.args.take k).map (kindV f) = (takesL x.op).take k) (fun k => (takesL x.op).length - k) 0 zR1 zLe (⟨qg _, Z⟩) ?_
  rintro k ⟨hk, hall⟩
  refine zSr<|zVGvlss Z Z<|z6<|zb<|zr Z (fun ck=>?_) (fun ck=>?_)
  ·have hk2 : k < (takesL x.op).length := by simp at ck; omega
   have hk3 : k < x.args.length := by omega
   have hvk : hasV f x.args[k] = true := List.all_eq_true.1 ha _ (qh hk3)
   refine zf<|zb<|zg<|zSr<|zVzMi Z<|z8 (zIM k X4 Xh Z Z Z (qd hk2))<|zVzLi isAgg36 Z<|zVzAi Z<|zVzAi Z<|z6<|zb<|zw (fun j => false) (by kernel_rfl) Z (zu (.rest _))<|zTk 0 Z (yq ju jj Z Z)<|zTk 1 Z (zFF jk Z jn Z Z)<|zTk 2 Z (zLf jz Z)<|zTk 3 Z (zMi Z)<|zTk 4 Z (zIM k j9 jd Z Z Z (qd hk3))<|zTk 5 Z (zLi jr Z)<|zTk 7 Z (zMi Z)<|zOn 6 Z<|zd (kind_spec _ _ (by assumption)) Z<|z6<|zTk 8 Z (Gv.neqI Z Z)<|zDn<|zz Z (fun cn=>?_) (fun cn=>?_)
   ·refine zSr<|zVzAb Z<|z6<|ze<|zi (x := .bool _) Z ?_
    exact jb (by unfold instT; rw [if_neg e1, qr (map_ne hk3 hk2 (by simpa using cn))]; rfl)
   ·refine zf<|zRg<|zVzAd Z Z<|zVzMi Z<|z6 ?_
    exact ⟨k + 1, zR4, zR1, zLe, ⟨hk2, map_take_succ hk3 hk2 hall (by simpa using cn)⟩, by omega⟩
  ·have hkn : k = (takesL x.op).length := by simp at ck; omega
   subst hkn
   rw [qi, ← hl, qi] at hall
   refine y2<|zSr<|zVzFF jk Z Zx Z Z<|zVzLi Y8 Z<|zd (makes_spec _) Z<|z8 (zMu Z)<|z8 (zXi Z Z)<|z8 (zXb Z Z)<|zVzAi Z<|zVzAb Z<|z6<|zSr<|zVzMb Z<|zVGvnot Z<|zVzMb Z<|zo (s := 50) Z (fun c1=>?_) (fun c1=>?_)
   ·refine z7 Z Z c1<|z7 Z Z c1<|z7 Z Z c1<|z7 Z Z c1<|z7 Z Z c1<|z7 Z Z c1<|zVzPt Z c1 Z<|zVzAb Z<|z6<|ze<|zi (x := .bool _) Z ?_
    exact jb (by unfold instT; rw [if_neg e1, qq hall]; simp_all)
   ·refine za Z Z c1<|zVGvloadWF ju jj Z Z<|za Z Z c1<|zVzFF jk Z jd Z Z<|za Z Z c1<|zVzLi jr Z<|za Z Z c1<|zd (kind_spec f x.dst (hd (by simp_all))) Z<|za Z Z c1<|zVzMi Z<|za Z Z c1<|zVGveqlI Z Z<|zVzPf Z c1 Z<|zVzAb Z<|z6<|ze<|zi (x := .bool _) Z ?_
    exact jb (by unfold instT; rw [if_neg e1, qq hall]; simp_all)
def phiT (f : PFunc) (p : PPhi) : Bool := !(p.args.any fun v => !decide (kindV f v = kindV f p.dst))
theorem yphi1_spec (f : PFunc) (p : PPhi) (v : Int) (hv : hasV f v = true) (hd : hasV f p.dst = true) : AFun prog E 146 ([.int .i64 v] ++ [.pf (encF f), .pf (encPhi p)]) (.bool (!decide (kindV f v = kindV f p.dst))) := by
 refine zk func146 Z (by decide) Z<|zSr<|zVzAb Z<|z6<|zb<|zw (fun j => false) (by kernel_rfl) Z (zu (.rest _))<|zTk 0 Z (yq ju jj Z Z)<|zTk 1 Z (zMi Z)<|zTk 3 Z (yq ju jj Z Z)<|zTk 4 Z (zFF jm Z jd Z Z)<|zTk 5 Z (zLi jr Z)<|zOn 2 Z<|zd (kind_spec _ _ (by assumption)) Z<|z6<|zOn 6 Z<|zd (kind_spec _ _ (by assumption)) Z<|z6<|zTk 7 Z (Gv.neqI Z Z)<|zTk 8 Z (zAb Z)<|zDn<|ze<|zi (x := .bool _) Z ?_
 simp_all
theorem yphi_spec (f : PFunc) (p : PPhi) (hp : okPhi p) (ha : p.args.all (hasV f) = true) (hd : hasV f p.dst = true) : AFun prog E 107 [.agg (encF f), .agg (encPhi p)] (.bool (phiT f p)) := by
 have hl1 := hp.1.lt
 refine zk func107 Z (by decide) Z<|zSr<|y6 (cs := _) Z Z Z<|y6 (cs := _) Z Z Z<|zVzAb Z<|z6<|zSr<|zVzFF jm Z jn Z Z<|zVzLf jz Z<|z8 (Gv.func Z Z)<|zd (containsFuncJ_spec p.args (by omega) (fun v hv => yphi1_spec f p v (List.all_eq_true.1 ha v hv) hd)) Z<|zVGvnot Z<|zVzAb Z<|z6<|ze<|zi (x := .bool _) Z ?_
 rfl
def termT (f : PFunc) (t : PTerm) : Bool := if t.kind = 0 then !decide (t.to0 = 0) else if t.kind = 1 then decide (kindV f t.var = 1) && !decide (t.to0 = 0) && !decide (t.to1 = 0) else decide (kindV f t.var = 0)
theorem yterm_spec (f : PFunc) (t : PTerm) (h : ¬ t.kind = 0 → hasV f t.var = true) : AFun prog E 109 [.agg (encF f), .agg (encTerm t)] (.bool (termT f t)) := by
 refine zk func109 Z (by decide) Z<|zSr<|y6 (cs := _) Z Z Z<|y6 (cs := _) Z Z Z<|zVzAb Z<|z6<|zb<|zSr<|zVzFF je Z Zl Z Z<|zVzLi Y0 Z<|z6<|zg<|zSr<|zVGveqlI Z Z<|zVzAb Z<|z6<|zz Z (fun c2=>?_) (fun c2=>?_)
 ·refine zSr<|zVzFF je Z Z8 Z Z<|z8 (yo (j := 0) jy jd Z Z Z (by decide) Z)<|zVzLi jr Z<|zVGvneqI Z Z<|zVzAb Z<|z6<|ze<|zi (x := .bool _) Z ?_
  exact jb (by unfold termT; simp_all)
 ·refine zSr<|zVGveqlI Z Z<|zVzAb Z<|z6<|zz Z (fun c3=>?_) (fun c3=>?_)
  ·refine zSr<|zVGvloadWF ju jj Z Z<|zVzFF je Z jd Z Z<|zVzLi jr Z<|zd (kind_spec f t.var (h (by simp_all))) Z<|zVGveqlI Z Z<|zVzMb Z<|zo (s := 20) Z (fun c4=>?_) (fun c4=>?_)
   ·refine za Z Z c4<|zVzFF je Z Z8 Z Z<|za Z Z c4<|z8 (yo (j := 0) jy jd Z Z Z (by decide) Z)<|za Z Z c4<|zVzLi jr Z<|za Z Z c4<|zVGvneqI Z Z<|zVzPt Z c4 Z<|zVzMb Z<|zo (s := 26) Z (fun c5=>?_) (fun c5=>?_)
    ·refine za Z Z c5<|zVzFF je Z Z8 Z Z<|za Z Z c5<|z8 (yo (j := 1) jy jd Z Z Z (by decide) Z)<|za Z Z c5<|zVzLi jr Z<|za Z Z c5<|zVGvneqI Z Z<|zVzPt Z c5 Z<|zVzAb Z<|z6<|ze<|zi (x := .bool _) Z ?_
     exact jb (by unfold termT; simp_all)
    ·refine z7 Z Z c5<|z7 Z Z c5<|z7 Z Z c5<|z7 Z Z c5<|zVzPf Z c5 Z<|zVzAb Z<|z6<|ze<|zi (x := .bool _) Z ?_
     exact jb (by unfold termT; simp_all)
   ·refine z7 Z Z c4<|z7 Z Z c4<|z7 Z Z c4<|z7 Z Z c4<|zVzPf Z c4 Z<|zVzMb Z<|z7 Z Z Z<|z7 Z Z Z<|z7 Z Z Z<|z7 Z Z Z<|zVzPf Z Z Z<|zVzAb Z<|z6<|ze<|zi (x := .bool _) Z ?_
    exact jb (by unfold termT; simp_all)
  ·refine zf<|zSr<|zVGvloadWF ju jj Z Z<|zVzFF je Z jd Z Z<|zVzLi jr Z<|zd (kind_spec f t.var (h (by simp_all))) Z<|zVGveqlI Z Z<|zVzAb Z<|z6<|ze<|zi (x := .bool _) Z ?_
   exact jb (by unfold termT; simp_all)
end Go.Proofs.YtbkgklpihnfnjaaGreatDoor
namespace Go.Proofs.YtbkgklpihnfnjaaGreatDoor
open Go.Proofs.Tryz
open Go.Proofs
theorem ps23_1 : PlacesS prog 23 3 1 1 [.int .i64 0] := ⟨_, j9, jd, Zs, by decide, by decide, by kernel_rfl⟩
theorem ps23_2 : PlacesS prog 23 3 2 1 [.int .i64 0, .int .i64 0] := ⟨_, j9, jd, Zs, by decide, by decide, by kernel_rfl⟩
variable {E : World}
set_option maxRecDepth 20000
theorem ends_0 {t : PTerm} (h : t.kind = 0) : endsL t = [t.to0] := by unfold endsL; rw [if_pos h]
theorem ends_1 {t : PTerm} (h : t.kind = 1) (e : t.to0 = t.to1) : endsL t = [t.to0] := by unfold endsL; rw [if_neg (by omega), if_pos h, if_pos e]
theorem ends_2 {t : PTerm} (h : t.kind = 1) (e : ¬ t.to0 = t.to1) : endsL t = [t.to0, t.to1] := by unfold endsL; rw [if_neg (by omega), if_pos h, if_neg e]
theorem ends_3 {t : PTerm} (h0 : ¬ t.kind = 0) (h : ¬ t.kind = 1) : endsL t = [] := by unfold endsL; rw [if_neg h0, if_neg h]
theorem ends_spec (t : PTerm) : AFun prog E 36 [.agg (encTerm t)] (.fro 1 ((endsL t).map encI)) := by
 refine zk func36 Z (by decide) Z<|zSr<|y6 (cs := _) Z Z Z<|zVzAr Z<|z6<|zb<|zg<|zb<|zSr<|zVzFF je Z Zl Z Z<|zVzLi Y0 Z<|zVGveqlI Z Z<|zVzAb Z<|z6<|zr Z (fun c0=>?_) (fun c0=>?_)
 ·refine zf<|yh Z (by simpa using c0)<|zSr<|zVzFF je Z Z8 Z Z<|z8 (yo (j := 0) jy jd Z Z Z (by decide) Z)<|zVzLi jr Z<|zl (rows := [[_]]) ps23_1 Z Z Z Z Z<|z8 (zAf Z)<|z6<|ze<|zi (x := .fro _ _) Z ?_
  rw [ends_0 c0]; rfl
 ·refine zRg<|zVzFF je Z Zl Z Z<|zVzLi Y0 Z<|zVGveqlI Z Z<|zVzMb Z<|zo (s := 10) Z (fun c1=>?_) (fun c1=>?_)
  ·refine za Z Z c1<|zVzFF je Z Z8 Z Z<|za Z Z c1<|z8 (yo (j := 0) jy jd Z Z Z (by decide) Z)<|za Z Z c1<|zVzLi jr Z<|za Z Z c1<|zVzFF je Z Z8 Z Z<|za Z Z c1<|z8 (yo (j := 1) jy jd Z Z Z (by decide) Z)<|za Z Z c1<|zVzLi jr Z<|za Z Z c1<|zVGveqlI Z Z<|zVzPt Z c1 Z<|zVzAb Z<|z6<|zz Z (fun c2=>?_) (fun c2=>?_)
   ·refine zSr<|zVzFF je Z Z8 Z Z<|z8 (yo (j := 0) jy jd Z Z Z (by decide) Z)<|zVzLi jr Z<|zl (rows := [[_]]) ps23_1 Z Z Z Z Z<|z8 (zAf Z)<|z6<|ze<|zi (x := .fro _ _) Z ?_
    rw [ends_1 (by simpa using c1) (by simpa using c2)]; rfl
   ·refine zSr<|zVzFF je Z Zl Z Z<|zVzLi Y0 Z<|zVGveqlI Z Z<|zVzAb Z<|z6<|yh Z (by simpa using c1)<|zSr<|zVzFF je Z Z8 Z Z<|z8 (yo (j := 0) jy jd Z Z Z (by decide) Z)<|zVzLi jr Z<|zVzFF je Z Z8 Z Z<|z8 (yo (j := 1) jy jd Z Z Z (by decide) Z)<|zVzLi jr Z<|zl (rows := [[_], [_]]) ps23_2 Z Z Z Z Z<|z8 (zAf Z)<|z6<|ze<|zi (x := .fro _ _) Z ?_
    rw [ends_2 (by simpa using c1) (by simpa using c2)]; rfl
  ·refine z7 Z Z c1<|z7 Z Z c1<|z7 Z Z c1<|z7 Z Z c1<|z7 Z Z c1<|z7 Z Z c1<|z7 Z Z c1<|zVzPf Z c1 Z<|zVzAb Z<|z6<|yc Z Z<|zSr<|zVzFF je Z Zl Z Z<|zVzLi Y0 Z<|zVGveqlI Z Z<|zVzAb Z<|z6<|yc Z (by simpa using c1)<|zf<|zSr<|zVzAr Z<|z6<|ze ?_
   repeat (first | refine aseqQ_ret ?_ | refine ablockQ_ret ?_)
   refine GStep.fin (GStep.slot (t := 2) Z (impNil 1))<|zi (x := .fro _ _) Z ?_
   rw [ends_3 (by simpa using c0) (by simpa using c1)]; rfl
def push1 (rows : List (List Int)) (c x : Int) : List (List Int) := rows.set c.toNat ((rows[c.toNat]?).getD [] ++ [x])
def pushes (rows : List (List Int)) (cs : List Int) (x : Int) : List (List Int) := cs.foldl (fun r c => push1 r c x) rows
theorem pushes_len (cs : List Int) (x : Int) : ∀ rows, (pushes rows cs x).length = rows.length := by
 induction cs with
 | nil => intro rows; rfl
 | cons c cs ih => intro rows; show (pushes (push1 rows c x) cs x).length = _; rw [ih]; unfold push1; simp
theorem pushes_snoc (rows : List (List Int)) (cs : List Int) (c x : Int) : pushes rows (cs ++ [c]) x = push1 (pushes rows cs x) c x := by unfold pushes; rw [List.foldl_append]; rfl
theorem push1_get {rows : List (List Int)} {c x : Int} (h0 : 0 ≤ c) (b : Nat) : (push1 rows c x)[b]? = (rows[b]?).map (· ++ if c = (b : Int) then [x] else []) := by
 unfold push1
 rw [List.getElem?_set]
 by_cases e : c.toNat = b
 ·have : c = (b : Int) := by omega
  rw [if_pos e, if_pos this, e]
  by_cases hb : b < rows.length
  ·rw [if_pos hb, qd hb]; rfl
  ·rw [if_neg hb, List.getElem?_eq_none (by omega)]; rfl
 ·have : ¬ c = (b : Int) := by omega
  rw [if_neg e, if_neg this]; simp
theorem pushes_get (x : Int) (b : Nat) : ∀ (cs : List Int) (rows : List (List Int)), (∀ c ∈ cs, 0 ≤ c) → (pushes rows cs x)[b]? = (rows[b]?).map (· ++ (cs.filter fun c => decide (c = (b : Int))).map fun _ => x)
 | [], rows, _ => by simp [pushes]
 | c :: cs, rows, h => by
  show (pushes (push1 rows c x) cs x)[b]? = _
  rw [pushes_get x b cs _ (fun c hc => h c (List.mem_cons_of_mem _ hc)), push1_get (h c (List.mem_cons_self ..))]
  cases rows[b]? with
  | none => rfl
  | some r =>
   by_cases e : c = (b : Int)
   ·simp [e]
   ·simp [e]
def predsR (f : PFunc) (k : Nat) : List (List Int) := (List.range f.blocks.length).map fun (b : Nat) => predsT (EndsOf f) k (b : Int)
theorem predsR_len (f : PFunc) (k : Nat) : (predsR f k).length = f.blocks.length := by unfold predsR; simp
theorem predsR_zero (f : PFunc) : List.replicate f.blocks.length [] = predsR f 0 := by
 apply List.ext_getElem
 ·rw [predsR_len]; simp
 ·intro i h1 h2
  unfold predsR predsT intsTo
  simp
theorem predsT_succ (E : Int → List Int) (k : Nat) (b : Int) : predsT E (k + 1) b = predsT E k b ++ ((E k).filter fun c => decide (c = b)).map fun _ => (k : Int) := by
 unfold predsT; rw [intsTo_succ, List.flatMap_append]; simp
theorem predsR_succ {f : PFunc} {k : Nat} (h0 : ∀ c ∈ EndsOf f k, 0 ≤ c) : pushes (predsR f k) (EndsOf f k) k = predsR f (k + 1) := by
 apply List.ext_getElem?
 intro b
 rw [pushes_get _ _ _ _ h0]
 by_cases hb : b < f.blocks.length
 ·unfold predsR
  rw [ql, ql, List.getElem?_range hb]
  simp only [Option.map_some]
  rw [predsT_succ]
 ·rw [List.getElem?_eq_none (by rw [predsR_len]; omega), List.getElem?_eq_none (by rw [predsR_len]; omega)]; rfl
theorem push_row {rows : List (List Int)} {c x : Int} (h : c.toNat < rows.length) : rows.set c.toNat (rows[c.toNat] ++ [x]) = push1 rows c x := by
 unfold push1; rw [qd h]; rfl
theorem predsT_len (f : PFunc) (b : Int) : ∀ k, (predsT (EndsOf f) k b).length ≤ 2 * k
 | 0 => by simp [predsT, intsTo]
 | k + 1 => by
  have h1 := predsT_len f b k
  have h2 := EndsOf_len f k
  have h3 := List.length_filter_le (fun c => decide (c = b)) (EndsOf f k)
  rw [predsT_succ, qj, qk]
  omega
theorem row_len {f : PFunc} {k b : Nat} {cs : List Int} {x : Int} (h0 : ∀ c ∈ cs, 0 ≤ c) (hb : b < (pushes (predsR f k) cs x).length) : (pushes (predsR f k) cs x)[b].length ≤ 2 * k + cs.length := by
 have hb2 : b < f.blocks.length := by rwa [pushes_len, predsR_len] at hb
 have h := pushes_get x b cs (predsR f k) h0
 have hr : (predsR f k)[b]? = some (predsT (EndsOf f) k (b : Int)) := by unfold predsR; rw [ql, List.getElem?_range hb2]; rfl
 rw [qd hb, hr] at h
 have h : (pushes (predsR f k) cs x)[b] = predsT (EndsOf f) k (b : Int) ++ (cs.filter fun c => decide (c = (b : Int))).map fun _ => x := by simpa using h
 have h2 := predsT_len f b k
 have h3 := List.length_filter_le (fun c => decide (c = (b : Int))) cs
 rw [h, qj, qk]
 omega
theorem preds_spec (f : PFunc) (hE : EndsOk f) (hn : f.blocks.length ≤ 100000) : AFun prog E 33 [.agg (encF f)] (froN eI (predsR f f.blocks.length)) := by
 refine zk func33 Z (by decide) Z<|zSr<|y6 (cs := _) Z Z Z<|zVzAr Z<|z6<|zSr<|zVzFF jc Z Z2 Z Z<|zVzLf Ze Z<|zVGvlenM jo Z<|AOps.makeNest (m := f.blocks.length) underlying76 type23 Z Z Z Z Z (by simp) (by simp) (by show (24 : Int) * _ ≤ _; omega) (by omega) eI 3<|fun b11 => z8 (y8 (v := nref _ _) Z)<|z6<|zb<|zSr<|zVzFF jc Z Z2 Z Z<|zVzLf Ze Z<|zVGvlenM jo Z<|zVzMi Z<|z6<|zg<|y3 (γ := Nat) [3, 13, 14] (fun k => [(15, .int .i64 k)]) (fun k => [(0, nestO eI 23 3 b11 (predsR f k))]) (fun k => k ≤ f.blocks.length) (fun k => f.blocks.length - k) 0 zR1 ⟨_, (.refl _), by rw [predsR_zero]⟩ (qg _) ?_
 rintro k hk
 refine zSr<|zVGvlss Z Z<|z6<|zb<|zr Z (fun ck=>?_) (fun ck=>?_)
 ·have hk2 : k < f.blocks.length := by simp at ck; omega
  have hEk : EndsOf f k = endsL f.blocks[k].term := EndsOf_nat hk2
  have hlen := endsL_len f.blocks[k].term
  have hrng := hE.rng _ (qh hk2)
  refine zf<|zb<|zg<|zSr<|zVzMi Z<|z8 (zIM k jo jt Z Z Z (qd hk2))<|zVGvloadWF Zq jt Z Z<|zq (cs := [.str ⟨#[]⟩, .raw (.slice none 0 0), .raw (.slice none 0 0), .int .i64 0, .int .i64 0, .int .i64 0, .int .i64 0]) Zb Z Z<|fun i5 => zVzAi Z<|zm jt Z Z Z Z Z Z .head Z<|z6<|zSr<|z8 (zc ja Z Z4 (by decide) Z Z)<|z8 (Gv.loadAC (l := [_, _, _, _]) Ym Z4 Z ⟨_, .head⟩ Z Z)<|zd (ends_spec _) Z<|zVGvlenM j9 Z<|zVzMi Z<|z6<|zg<|y3 (γ := Nat) [3, 4, 13, 14, 15, 22, 23] (fun j => [(24, .int .i64 j)]) (fun j => [(0, nestO eI 23 3 b11 (pushes (predsR f k) ((endsL f.blocks[k].term).take j) k))]) (fun j => j ≤ (endsL f.blocks[k].term).length) (fun j => (endsL f.blocks[k].term).length - j) 0 zR1 ⟨_, (.drop (.refl _)), Z⟩ (qg _) ?_
  rintro j hj
  refine zSr<|zVGvlss Z Z<|z6<|zb<|zr Z (fun cj=>?_) (fun cj=>?_)
  ·have hj2 : j < (endsL f.blocks[k].term).length := by simp at cj; omega
   obtain ⟨c, hc⟩ : ∃ c, (endsL f.blocks[k].term)[j] = c := ⟨_, rfl⟩
   have hr := hrng c (hc ▸ qh hj2)
   obtain ⟨rows, hrows⟩ : ∃ rows, pushes (predsR f k) ((endsL f.blocks[k].term).take j) k = rows := ⟨_, rfl⟩
   have hrl : rows.length = f.blocks.length := by rw [← hrows, pushes_len, predsR_len]
   have hcn : c.toNat < rows.length := by omega
   have hrow : rows[c.toNat].length ≤ 200002 := by
    have := row_len (f := f) (k := k) (b := c.toNat) (cs := (endsL f.blocks[k].term).take j) (x := k) (fun c hc => (hrng c (List.mem_of_mem_take hc)).1) (by rw [hrows]; exact hcn)
    simp only [hrows, qp] at this
    omega
   rw [hrows]
   refine zf<|zb<|zg<|zSr<|z8 (zIM j j9 jd Z Z Z (by rw [qd hj2, hc])) ?_
   refine zVzLi jr Z<|zVzAi Z<|z6<|zRg<|z8 (y9 (v := nref _ _) Z)<|zVzMi Z<|z8 (y9 (v := nref _ _) Z)<|zVzMi Z<|z8 (Gv.idxN (j := c.toNat) underlying76 jn Z Z (by omega) (by omega))<|AOps.nestTake (j := c.toNat) (r := rows[c.toNat]) jz Z (qd hcn) (fun _ => .head)<|fun i33 => zVzMi Z<|zl (rows := [[_]]) ps23_1 Z Z Z Z Z<|zy (k := 1) j9 Yx Z Z Z Z Z (fun _ => .head) (by rw [eI.av_len]; rfl) (by decide) Z (by show (_ + 1) * 8 ≤ _; omega) (by show _ + 1 ≤ _; omega)<|fun i36 => z8 (Gv.idxN (j := c.toNat) underlying76 jn Z Z (by omega) (by omega))<|AOps.nestPut (j := c.toNat) (r := rows[c.toNat] ++ [(k : Int)]) jn Z Z (by omega) .head .head Z (eI.av_push _ _) (by simp)<|z6<|zRg<|zVzAd Z Z<|zVzMi Z<|z6 ?_
   exact ⟨j + 1, zR7, zR1, ⟨_, (.refl _), by rw [qe hj2, pushes_snoc, hrows, hc, push_row hcn]⟩, hj2, by omega⟩
  ·have hjn : j = (endsL f.blocks[k].term).length := by simp at cj; omega
   refine y2<|zRg<|zVzAd Z Z<|zVzMi Z<|z6 ?_
   exact ⟨k + 1, zR3, zR1, ⟨_, (.refl _), by rw [hjn, qi, ← hEk, predsR_succ (fun c hc => (hrng c (hEk ▸ hc)).1)]⟩, hk2, by omega⟩
 ·have hkn : k = f.blocks.length := by simp at ck; omega
  subst hkn
  refine zt (GStep.nestKnow (s := 3) Z .head (predsR_len f _))<|y2<|zSr<|zVzMf Z<|z8 (zAf Z)<|z6<|ze<|zi (x := .fro _ _) Z ?_
  rfl
end Go.Proofs.YtbkgklpihnfnjaaGreatDoor
namespace Go.Proofs.YtbkgklpihnfnjaaGreatDoor
open Go.Proofs.Tryz
open Go.Sort (Holds putRow putCells onCells)
theorem putCells_eq {zs ys : List Int} {junk : List Value} (hl : ys.length = zs.length) : putCells (Value.int .i64) 0 ys.toArray (zs.map (Value.int .i64) ++ junk).toArray = (ys.map (Value.int .i64) ++ junk).toArray := by
 unfold putCells
 apply Array.ext_getElem?
 intro k
 simp only [Array.getElem?_mapIdx, List.getElem?_toArray, qg, true_and, Nat.zero_add, Nat.sub_zero, List.size_toArray]
 by_cases hk : k < ys.length
 ·rw [List.getElem?_append_left (by rw [qk]; omega), List.getElem?_append_left (by rw [qk]; omega), ql, ql, qd hk, qd (by omega : k < zs.length)]
  simp [hk]
 ·rw [List.getElem?_append_right (by rw [qk]; omega), List.getElem?_append_right (by rw [qk]; omega), qk, qk, hl]
  rw [hl] at hk
  simp only [hk, if_false]
  cases junk[k - zs.length]? <;> rfl
theorem SL.turned {I : Ghost} {O : List (Nat × Obj)} {E w : World} {b n : Nat} {zs ys : List Int} {junk : List Value} {T : TypeId} {os : Array Obj} (hl : ys.length = zs.length) (h : SL I ((b, .cells (zs.map (Value.int .i64) ++ junk).toArray T (0, 0)) :: O) E w) :
  SL I ((b, .cells (ys.map (Value.int .i64) ++ junk).toArray T (0, 0)) :: O) E (Go.Sort.grow (putRow (Value.int .i64) (Go.Sort.ahead w n) b 0 ys.toArray) os) := by
 have hb := h.own _ (.head _)
 simp only at hb
 have hlt := lt_of_some hb
 have h1 : SL I ((b, .cells (ys.map (Value.int .i64) ++ junk).toArray T (0, 0)) :: O) E (putRow (Value.int .i64) (Go.Sort.ahead w n) b 0 ys.toArray) := by
  refine h.turn Z Z Z ?_ fun k hk => ?_
  ·show (w.heap.modify b (onCells (putCells (Value.int .i64) 0 ys.toArray)))[b]? = _
   rw [Array.getElem?_modify, if_pos rfl, hb]
   simp only [Option.map_some, onCells, putCells_eq hl]
  ·show (w.heap.modify b (onCells (putCells (Value.int .i64) 0 ys.toArray)))[k]? = _
   rw [Array.getElem?_modify, if_neg (fun e => hk e.symm)]
 exact h1.more rfl rfl rfl fun k hk => Go.Sort.heap_grow_old _ _ hk
theorem ACall.turned {E : World} {P : Program} {f : FuncId} {fn : Func} {c : Code} {g : List Int → List Int} {B : Nat} (hf : P.funcs[f]? = some fn) (hb : fn.body = some c) (hn : fn.name ≠ "runtime.NumGoroutine") (hg : ∀ l, (g l).length = l.length)
  (hC : ∀ (blk cap : Nat) (zs : List Int) (w : World), Holds (Value.int .i64) w blk 0 zs.toArray → blk < w.heap.size → zs.length < B →
   Calls P f #[.slice (some ⟨blk, 0, none⟩) zs.length cap] w fun e w' => e = .returned (.tuple #[]) ∧ ∃ n os, w' = Go.Sort.grow (putRow (Value.int .i64) (Go.Sort.ahead w n) blk 0 (g zs).toArray) os)
  (hN : ∀ (cap : Nat) (w : World), Calls P f #[.slice none 0 cap] w fun e w' => e = .returned (.tuple #[]) ∧ w' = w)
  {l : List Int} {i n : Nat} {T : TypeId} (hl : l.length = n) (hB : n < B) : ACall P E f [.own i n] [(i, .grow 1 T (cI l))] fun r O => r = .tup [] ∧ O = [(i, .grow 1 T (cI (g l)))] := fun I F w vs h1 h2 => by
 obtain ⟨v, us, rfl, ⟨b, c, e1, rfl⟩, h3⟩ := h1
 have h3 : us = [] := h3
 subst h3
 obtain ⟨ht, L, ⟨A, B', e2, ⟨b', c', n', ws, e3, h4, h5, h6⟩, h7⟩, hS⟩ := h2
 have h7 : B' = [] := h7
 subst h7
 rw [List.append_nil] at e2
 subst e2
 simp only at e3
 rw [e1] at e3
 simp only [Option.some.injEq, Prod.mk.injEq] at e3
 obtain ⟨rfl, rfl⟩ := e3
 have h4 := cI_un h4
 subst h4
 refine Fn.ofCalls hf hb hn ?_
 obtain ⟨g1, g2, g3⟩ := h6
 rw [qk, Nat.mul_one] at g1
 have hnn : n' = n := by omega
 subst hnn
 rcases g3 with ⟨ea, rfl, rfl⟩ | ⟨b2, junk, ea, rfl, hj⟩
 ·have h0 : n' = 0 := by omega
  subst h0
  have hl0 : l = [] := qn hl
  subst hl0
  have hg0 : g [] = [] := qn (hg [])
  rw [ea]
  refine (hN 0 w).mono fun e w' ⟨he, hw⟩ => ⟨_, he, I, .tup [], _, .refl _, ⟨[], Z, Z⟩, ?_, Z, Z⟩
  subst hw
  rw [hg0]
  exact ⟨ht, [], ⟨[], [], rfl, ⟨b, 0, 0, [], e1, rfl, by simp, by rw [ea]; exact OwnS.nil 1 T⟩, rfl⟩, hS⟩
 ·rw [ea]
  have hS2 : SL I.k ((b2, .cells (l.map (Value.int .i64) ++ junk).toArray T (0, 0)) :: F) E w := hS
  have hH : Holds (Value.int .i64) w b2 0 l.toArray := fun j hjl => by
   have hj2 : j < l.length := by simpa using hjl
   have hbk := hS2.own _ (.head _)
   simp only at hbk
   refine ⟨?_, ?_⟩
   ·rw [hS2.cell_own, Nat.zero_add, List.getElem?_toArray, List.getElem?_append_left (by rw [qk]; exact hj2), ql, qd hj2]
    simp [hj2]
   ·simp [World.frozen?, hbk]
  have := hC b2 c l w hH (lt_of_some (hS2.own _ (.head _))) (by omega)
  rw [hl] at this
  refine this.mono fun e w' ⟨he, k, os, hw⟩ => ⟨_, he, I, .tup [], _, .refl _, ⟨[], Z, Z⟩, ?_, Z, Z⟩
  subst hw
  refine ⟨ht, [(b2, .cells ((g l).map (Value.int .i64) ++ junk).toArray T (0, 0))], ⟨_, [], by simp, ⟨b, c, n', (g l).map (Value.int .i64), e1, cI_rep_of I (g l), fun u hu => by obtain ⟨x, _, rfl⟩ := List.mem_map.1 hu; rfl, by rw [qk, hg, hl, Nat.mul_one], g2, .inr ⟨b2, junk, ea, rfl, by rw [qj, qk, hg] ; rw [qj, qk] at hj; exact hj⟩⟩, rfl⟩, ?_⟩
  exact SL.turned (hg l) hS2
end Go.Proofs.YtbkgklpihnfnjaaGreatDoor
namespace Go.Proofs.YtbkgklpihnfnjaaGreatDoor
open Go.Proofs.Tryz
variable {α : Type}
section
variable {E : World} {P : Program} {ops : Array Oper} {K : AEnv → OL → Prop} {env : AEnv} {O O' O'' : OL} {rest : List Oper} {n : Nat}
variable {d ty : Nat} {pos : String} {af : Array Edge} {x y z : Operand} {t u e T : TypeId}
end
end Go.Proofs.YtbkgklpihnfnjaaGreatDoor
namespace Go.Proofs.YtbkgklpihnfnjaaGreatDoor
open Go.Proofs.Tryz
open Go.Proofs
theorem pl180 : Places prog 180 #[(0, 1), (1, 1)] [.int .i64 0, .int .i64 0] := ⟨_, _, Yv, zeroValue180, fun w => by kernel_rfl, rfl⟩
theorem ps181_1 : PlacesS prog 181 180 1 2 [.int .i64 0, .int .i64 0] := ⟨_, Yn, sizeOf180, zeroValue180, by decide, by decide, by kernel_rfl⟩
variable {E : World}
set_option maxRecDepth 20000
def stC (r : List (Int × Nat)) : List AV := (r.reverse.map fun q => [AV.int .i64 q.1, AV.int .i64 (q.2 : Int)]).flatten
theorem stC_cons (b : Int) (k : Nat) (r : List (Int × Nat)) : stC ((b, k) :: r) = stC r ++ [AV.int .i64 b, AV.int .i64 (k : Int)] := by unfold stC; simp
theorem stC_len (r : List (Int × Nat)) : (stC r).length = r.length * 2 := by
 induction r with
 | nil => rfl
 | cons q r ih => obtain ⟨b, k⟩ := q; rw [stC_cons, qj, ih]; simp only [List.length_cons, List.length_nil]; omega
theorem dfs_lens {f : PFunc} {n k : Nat} (hE : EOk (EndsOf f) n) : (dfsN (EndsOf f) n k).2.1.length + (dfsN (EndsOf f) n k).2.2.length ≤ n := by
 have h := dfsN_inv hE k
 have h2 := nodup_len _ (intsTo n) h.nodup fun x hx => mem_intsTo.2 (h.rng x hx)
 rw [intsTo_len, qj, qk] at h2
 exact h2
theorem order_spec (f : PFunc) (hE : EndsOk f) (hn : f.blocks.length ≤ 100000) (hrev : ∀ (l : List Int) (i : Nat) (T : TypeId), l.length ≤ 200000 → ACall prog E 112 [.own i l.length] [(i, .grow 1 T (cI l))] fun r O => r = .tup [] ∧ O = [(i, .grow 1 T (cI l.reverse))]) :
  AFun prog E 67 [.agg (encF f)] (.fro 1 ((orderT (EndsOf f) f.blocks.length).map encI)) := by
 have hG := hE.grph
 have hpos := hG.npos
 refine zk func67 Z (by decide) Z<|zSr<|y6 (cs := _) Z Z Z<|zVzAr Z<|z6<|zSr<|zVzFF jc Z Z2 Z Z<|zVzLf Ze Z<|zVGvlenM jo Z<|AOps.makeB (m := f.blocks.length) Yq type4 Z Z Z Z Z (by simp) (by simp) (by show (1 : Int) * _ ≤ _; omega) (by omega)<|fun i12 => zVzAo Z<|z6<|zSr<|zVzMo Z<|z8 (Gv.idxI (j := 0) Yq Zj Z Z Z ⟨_, .head⟩ (by first | rfl | (simp [cI_len, cB_len]; done) | (simp [cI_len, cB_len]; omega)) hG.npos)<|AOps.storeB (j := 0) Zj Z Z .head (by first | omega | (simp; omega))<|z6<|zSr<|zVzAr Z<|z6<|zSr<|z8 (y4 (cps := [(0, [_]), (1, [_])]) (rs := [_, _]) pl180 Z Z Z)<|AOps.buildSliceO (cps := [(0, [_, _])]) (rs := [_, _]) ps181_1 Z Z Z Z Z<|fun i16 => zVzAo Z<|z6<|adopt_wp (t := 4) (k := 1) (T := 3) Z<|fun i4 => zt (zn (zp .t1))<|zb<|zg<|y3 (γ := Nat × Nat × Nat) [1, 3] (fun g => [(4, .own g.2.1 (dfsN (EndsOf f) f.blocks.length g.1).2.1.length), (5, .own g.2.2 (dfsN (EndsOf f) f.blocks.length g.1).2.2.length)]) (fun g => [(g.2.2, .grow 2 180 (stC (dfsN (EndsOf f) f.blocks.length g.1).2.2)), (g.2.1, .grow 1 3 (cI (dfsN (EndsOf f) f.blocks.length g.1).2.1)), (i12, .grow 1 4 (cB (dfsN (EndsOf f) f.blocks.length g.1).1))]) (fun g => g.1 ≤ 4 * f.blocks.length ∧ (dfsN (EndsOf f) f.blocks.length g.1).1.length = f.blocks.length) (fun g => dleft (dfsN (EndsOf f) f.blocks.length g.1)) (0, i4, i16) zR2 zLe (⟨qg _, by simp [dfsN, dfs0]⟩) ?_
 rintro ⟨k, io, il⟩ ⟨hk, hsl⟩
 try dsimp only at *
 have hI := dfsN_inv hG.toEOk k
 have hlen := dfs_lens (k := k) hG.toEOk
 have hlt := dfs_left hG.toEOk k
 have hstep : dfsN (EndsOf f) f.blocks.length (k + 1) = dstep (EndsOf f) (dfsN (EndsOf f) f.blocks.length k) := rfl
 rcases hx : dfsN (EndsOf f) f.blocks.length k with ⟨seen, out, st⟩
 rw [hx] at hI hlen hlt hstep hsl
 dsimp only at hlen hlt hsl
 cases st with
 | nil =>
 ·refine zb<|zSr<|zVzMo Z<|z8 (q7 Yn Z)<|z8 (yr Z Z)<|z6<|yc Z (by simp) ?_
  have hfin := dfs_still (E := EndsOf f) (n := f.blocks.length) (k := k) (by rw [hx]) hk
  refine y2<|zSr<|zVzMo Z<|ye Z (zu (.r (.l (.r (.rest _))))) (hrev out io 3 (by omega)) ?_
  rintro r82 O82 ⟨rfl, rfl⟩
  refine z6<|zt (GStep.knowI (t := 4) Z .head (by simp))<|zSr<|zVzMf Z<|z8 (zAf Z)<|z6<|ze<|zi (x := .fro _ _) Z ?_
  unfold orderT; rw [hfin, hx]; rfl
  | cons q r =>
 ·obtain ⟨b, j⟩ := q
  have hbr := hI.rng b (by simp)
  have hbl : b.toNat < f.blocks.length := by omega
  have hEb : EndsOf f b = endsL f.blocks[b.toNat].term := EndsOf_get hbr.1 hbl
  have hjl := (hI.part (b, j) (by simp)).1
  dsimp only at hjl
  have hmn : dleft (dfsN (EndsOf f) f.blocks.length (k + 1)) < dleft (dfsN (EndsOf f) f.blocks.length k) := by rw [hstep, hx]; exact DInv.less hG.toEOk hI (by simp)
  have hk2 : k + 1 ≤ 4 * f.blocks.length := by simp at hlt; omega
  have hsn : (dfsN (EndsOf f) f.blocks.length (k + 1)).1.length = f.blocks.length := (dfsN_inv hG.toEOk (k + 1)).len
  rw [dstep_cons] at hstep
  rw [hx] at hmn
  rw [stC_cons]
  simp only [List.length_cons] at hlen ⊢
  refine zb<|zSr<|zVzMo Z<|z8 (q7 Yn Z)<|z8 (yr Z Z)<|z6<|yh Z (by simp)<|zf<|zg<|zSr<|zVzMo Z<|zVzMo Z<|z8 (q7 Yn Z)<|z8 (Gv.sub Z Z (by unfold I64; show _ ∧ ((r.length + 1 : Nat) : Int) - 1 ≤ _; omega))<|z8 (Gv.idxOL (j := r.length) Yn sizeOf180 Z Z (by show ((r.length + 1 : Nat) : Int) - 1 = _; omega) ⟨_, .head⟩ (by simp) (by show r.length < r.length + 1; omega) (show r.length * 2 = (stC r).length by rw [stC_len]))<|z8 (zAp Z)<|z6<|zb<|zw (fun j => false) (by kernel_rfl) Z (zu (.r (.rest _)))<|zTk 0 Z (zFF jc Z Z2 Z Z)<|zTk 1 Z (zLf Ze Z)<|zTk 2 Z (zMp Z)<|zTk 3 Z (yl Z)<|zTk 4 Z (zc Yv Z jd (by decide) Z Z)<|zTk 5 Z (q9 (c := .int _ _) (j := 0) jr Z Z ⟨_, .head⟩ Z)<|zTk 6 Z (zIM b.toNat jo jt Z Z (by omega) (qd hbl))<|zTk 7 Z (zFF ja Z Z4 Z Z)<|zTk 8 Z (yq Ym Z4 Z Z)<|zOn 9 Z<|zd (ends_spec _) Z<|z6<|zTk 10 Z (zAf Z)<|zDn<|zb<|zSr<|zVzMp Z<|zVGvnilCheckO Z<|z8 (zc Yv Z jd (by decide) Z Z)<|z8 (q9 (c := .int _ _) (j := 1) jr Z Z ⟨_, .head⟩ Z)<|zVzMf Z<|zVGvlenM j9 Z ?_
  refine zVGveqlI Z Z<|z6<|zz Z (fun ce=>?_) (fun ce=>?_)
  ·have hje : j = (EndsOf f b).length := by rw [hEb]; have h0 : (j : Int) = ((endsL f.blocks[b.toNat].term).length : Int) := (by simpa using ce); omega
   rw [if_pos hje] at hstep
   refine zSr<|zVzMo Z<|zVzMp Z<|zVGvnilCheckO Z<|z8 (zc Yv Z jd (by decide) Z Z)<|z8 (q9 (c := .int _ _) (j := 0) jr Z Z ⟨_, .head⟩ Z)<|zl (rows := [[_]]) ps23_1 Z Z Z Z Z<|zy (k := 1) j9 Yx Z Z Z Z Z (fun _ => .t1) (by rw [cI_len]; omega) (by decide) Z (by show (out.length + 1) * 8 ≤ _; omega) (by show out.length + 1 ≤ _; omega)<|fun i48 => zVzAo Z<|z6<|zSr<|zVzMo Z<|zVzMo Z<|z8 (q7 Yn Z)<|z8 (Gv.sub Z Z (by unfold I64; show _ ∧ ((r.length + 1 : Nat) : Int) - 1 ≤ _; omega))<|AOps.cutLast (j := r.length) Yn sizeOf180 Z Z (by show ((r.length + 1 : Nat) : Int) - 1 = _; omega) .head (by decide) (by rw [stC_len])<|zVzAo Z<|z6<|y2 ?_
   exact ⟨(k + 1, i48, il), zR2, ⟨(by rw [hstep, qj]; rfl), (by rw [hstep]; rfl), trivial⟩, ⟨_, (.refl _), by rw [hstep]; dsimp only; rw [← cI_app]; rfl⟩, ⟨hk2, hsn⟩, by exact hmn⟩
  ·have hje : ¬ j = (EndsOf f b).length := by rw [hEb]; have h0 : ¬ (j : Int) = ((endsL f.blocks[b.toNat].term).length : Int) := (by simpa using ce); omega
   have hj2 : j < (endsL f.blocks[b.toNat].term).length := by rw [← hEb]; omega
   rw [if_neg hje] at hstep
   obtain ⟨c, hc⟩ : ∃ c, ge (EndsOf f b) j = c := ⟨_, rfl⟩
   have hcj : (endsL f.blocks[b.toNat].term)[j]? = some c := by rw [← hEb]; unfold ge at hc; rw [← hc, hEb, qd hj2]; rfl
   have hcr := hG.rng b hbr.1 hbr.2 c (by rw [hEb]; exact qm hcj)
   rw [hc] at hstep
   have hgs : seen[c.toNat]? = some (gb seen c) := by unfold gb; rw [qd (by omega)]; rfl
   have hl2 := hG.len b
   rw [hEb] at hl2
   refine zf<|zSr<|zVzMf Z<|zVzMp Z<|zVGvnilCheckO Z<|z8 (zc Yv Z jd (by decide) Z Z)<|z8 (q9 (c := .int _ _) (j := 1) jr Z Z ⟨_, .head⟩ Z)<|z8 (zIM j j9 jd Z Z Z hcj)<|zVzLi jr Z<|zVzAi Z<|z6<|zSr<|zVzMp Z<|zVGvnilCheckO Z<|z8 (zc Yv Z jd (by decide) Z Z)<|z8 (q9 (c := .int _ _) (j := 1) jr Z Z ⟨_, .head⟩ Z)<|zVzAd Z Z<|zVGvnilCheckO Z<|z8 (zc Yv Z jd (by decide) Z Z)<|yv (j := 1) (l := [_]) (new := [_, _]) jd Z Z Z Z Z Z Z .head Z Z Z<|z6<|zSr<|zVzMo Z<|zVzMi Z<|z8 (Gv.idxI (j := c.toNat) Yq Zj Z Z (by omega) ⟨_, .t2⟩ (by first | rfl | (simp [cI_len, cB_len]; done) | (simp [cI_len, cB_len]; omega)) (by omega))<|z8 (Gv.loadB (j := c.toNat) Yo Z ⟨_, .t2⟩ hgs)<|zVGvnot Z<|z6<|zz Z (fun cs=>?_) (fun cs=>?_)
   ·rw [if_neg (by simpa using cs)] at hstep
    refine zSr<|zVzMo Z<|zVzMi Z<|z8 (Gv.idxI (j := c.toNat) Yq Zj Z Z (by omega) ⟨_, .t2⟩ (by first | rfl | (simp [cI_len, cB_len]; done) | (simp [cI_len, cB_len]; omega)) (by omega))<|AOps.storeB (j := c.toNat) Zj Z Z .t2 (by first | omega | (simp; omega))<|z6<|zRg<|zVzMo Z<|zVzMi Z<|z8 (y4 (cps := [(0, [_]), (1, [_])]) (rs := [_, _]) pl180 Z Z Z)<|zl (rows := [[_, _]]) ps181_1 Z Z Z Z Z<|zy (k := 2) Yn type180 Z Z Z Z Z (fun _ => .head) (by rw [qj, stC_len]; show r.length * 2 + 2 = (r.length + 1) * 2; omega) (by decide) Z (by show (r.length + 1 + 1) * 16 ≤ _; omega) (by show r.length + 1 + 1 ≤ _; omega)<|fun i80 => zVzAo Z<|z6 ?_
    exact ⟨(k + 1, io, i80), zR2, ⟨(by rw [hstep]; rfl), (by rw [hstep]; rfl), trivial⟩, ⟨_, (.refl _), by rw [hstep, stC_cons, stC_cons]; rfl⟩, ⟨hk2, hsn⟩, by exact hmn⟩
   ·rw [if_pos (by simpa using cs)] at hstep
    refine zf ?_
    exact ⟨(k + 1, io, il), zR2, ⟨(by rw [hstep]; rfl), (by rw [hstep]; rfl), trivial⟩, ⟨_, (.refl _), by rw [hstep, stC_cons]; rfl⟩, ⟨hk2, hsn⟩, by exact hmn⟩
end Go.Proofs.YtbkgklpihnfnjaaGreatDoor
namespace Go.Proofs.YtbkgklpihnfnjaaGreatDoor
open Go.Proofs.Tryz
section
variable {E : World} {P : Program} {n : Nat} {l : List Oper} {W : Nat → Bool} {Q : AEnv → OL → Prop} {fuel : Nat} {listed : Array Bool} {env : AEnv} {O Os Om : OL}
end
end Go.Proofs.YtbkgklpihnfnjaaGreatDoor
namespace Go.Proofs.YtbkgklpihnfnjaaGreatDoor
open Go.Proofs.Tryz
section
variable {E : World} {P : Program} {ops : Array Oper} {K : AEnv → OL → Prop} {env : AEnv} {O O' O'' : OL} {rest : List Oper}
variable {d ty : Nat} {pos : String} {af : Array Edge} {x y z : Operand} {t u e T : TypeId}
end
end Go.Proofs.YtbkgklpihnfnjaaGreatDoor
namespace Go.Proofs
open Go.Shelf
def Tryz.lays169_ren : Go.Shelf.Ren := ⟨fun | 169 => 50 | n => n, fun | 70 => 84 | 9 => 9 | 0 => 0 | 72 => 87 | 37 => 85 | 127 => 144 | 3 => 3 | 5 => 5 | n => n, fun | n => n⟩
theorem Tryz.lays169 : Go.Proofs.Lays.n169 prog Tryz.lays169_ren := {
 mixed := by kernel_rfl
 f169 := func50.trans (congrArg some (by kernel_rfl))
 t0 := underlying0
 a0 := isAgg0
 z0 := sizeOf0
 v0 := zeroValue0
 t3 := underlying3
 a3 := isAgg3
 z3 := sizeOf3
 v3 := zeroValue3
 t9 := underlying9
 a9 := isAgg9
 z9 := sizeOf9
 v9 := zeroValue9
 t37 := underlying85
 a37 := isAgg85
 z37 := sizeOf85
 v37 := zeroValue85
 t70 := underlying84
 a70 := isAgg84
 z70 := sizeOf84
 v70 := zeroValue84
 t72 := underlying87
 a72 := isAgg87
 z72 := sizeOf87
 v72 := zeroValue87
 t127 := underlying144
 a127 := isAgg144
 z127 := sizeOf144
 v127 := zeroValue144 }
theorem Tryz.Builder_Extra_169 : Builder.Extra prog Tryz.lays169_ren := {
 sizeBuilder := by kernel_rfl
 liesBuilder := by kernel_rfl
 t5 := underlying5
 a5 := isAgg5
 z5 := sizeOf5
 v5 := zeroValue5
 infoByte := by kernel_rfl
 cellsByte := by kernel_rfl
 sizeByte := by kernel_rfl
 neB5 := by decide }
def Tryz.lays156_ren : Go.Shelf.Ren := ⟨fun | 156 => 44 | 165 => 83 | 166 => 43 | 169 => 50 | 240 => 82 | 241 => 131 | 276 => 130 | 277 => 175 | n => n, fun | 31 => 88 | 9 => 9 | 3 => 3 | 4 => 4 | 0 => 0 | 20 => 20 | 72 => 87 | 76 => 91 | 70 => 84 | 37 => 85 | 75 => 90 | 127 => 144 | 164 => 200 | 5 => 5 | 80 => 100 | n => n, fun | n => n⟩
theorem Tryz.lays156 : Go.Proofs.Lays.n156 prog Tryz.lays156_ren := {
 mixed := by kernel_rfl
 f156 := func44.trans (congrArg some (by kernel_rfl))
 f165 := func83.trans (congrArg some (by kernel_rfl))
 f166 := func43.trans (congrArg some (by kernel_rfl))
 f169 := func50.trans (congrArg some (by kernel_rfl))
 f240 := func82.trans (congrArg some (by kernel_rfl))
 f241 := func131.trans (congrArg some (by kernel_rfl))
 f276 := func130.trans (congrArg some (by kernel_rfl))
 f277 := func175.trans (congrArg some (by kernel_rfl))
 t0 := underlying0
 a0 := isAgg0
 z0 := sizeOf0
 v0 := zeroValue0
 t3 := underlying3
 a3 := isAgg3
 z3 := sizeOf3
 v3 := zeroValue3
 t4 := underlying4
 a4 := isAgg4
 z4 := sizeOf4
 v4 := zeroValue4
 t9 := underlying9
 a9 := isAgg9
 z9 := sizeOf9
 v9 := zeroValue9
 t20 := underlying20
 a20 := isAgg20
 z20 := sizeOf20
 v20 := zeroValue20
 t31 := underlying88
 a31 := isAgg88
 z31 := sizeOf88
 v31 := zeroValue88
 t37 := underlying85
 a37 := isAgg85
 z37 := sizeOf85
 v37 := zeroValue85
 t70 := underlying84
 a70 := isAgg84
 z70 := sizeOf84
 v70 := zeroValue84
 t72 := underlying87
 a72 := isAgg87
 z72 := sizeOf87
 v72 := zeroValue87
 t75 := underlying90
 a75 := isAgg90
 z75 := sizeOf90
 v75 := zeroValue90
 t76 := underlying91
 a76 := isAgg91
 z76 := sizeOf91
 v76 := zeroValue91
 t127 := underlying144
 a127 := isAgg144
 z127 := sizeOf144
 v127 := zeroValue144
 t164 := underlying200
 a164 := isAgg200
 z164 := sizeOf200
 v164 := zeroValue200 }
theorem Tryz.Builder_Extra_156 : Builder.Extra prog Tryz.lays156_ren := {
 sizeBuilder := by kernel_rfl
 liesBuilder := by kernel_rfl
 t5 := underlying5
 a5 := isAgg5
 z5 := sizeOf5
 v5 := zeroValue5
 infoByte := by kernel_rfl
 cellsByte := by kernel_rfl
 sizeByte := by kernel_rfl
 neB5 := by decide }
open Go.RowKit in
theorem Tryz.strings_Join_none (a : Option Addr) (c : Nat) (sep : ByteArray) (w : World) :
  Calls prog 44 #[.slice a 0 c, .string sep] w fun e w' => e = .returned (.string ⟨#[]⟩) ∧ w' = w := Any.strings_Join_none Tryz.lays156 Tryz.Builder_Extra_156 a c sep w
open Go.RowKit in
theorem Tryz.strings_Join (bk o c : Nat) (xs : List ByteArray) (sep : ByteArray) (w : World) (hcells : ∀ (j : Nat) x, xs[j]? = some x → w.cell? ⟨bk, o + j, none⟩ = some (.string x)) (hbk : bk < w.heap.size) (hN : xs.length ≤ 140737488355328) (hcap : xs.length ≤ c) (hlen : (Lib.join (xs.map (·.data.toList)) sep.data.toList).length ≤ 140737488355328) :
  Calls prog 44 #[.slice (some ⟨bk, o, none⟩) xs.length c, .string sep] w fun e w' => e = .returned (.string ⟨(Lib.join (xs.map (·.data.toList)) sep.data.toList).toArray⟩) ∧ Below w.heap.size w w' := Any.strings_Join Tryz.lays156 Tryz.Builder_Extra_156 bk o c xs sep w hcells hbk hN hcap hlen
def Tryz.lays215_ren : Go.Shelf.Ren := ⟨fun | 215 => 115 | n => n, fun | 3 => 3 | 4 => 4 | n => n, fun | n => n⟩
def Tryz.lays122_ren : Go.Shelf.Ren := ⟨fun | 122 => 72 | 215 => 115 | n => n, fun | 3 => 3 | 4 => 4 | n => n, fun | n => n⟩
theorem Tryz.lays122 : Go.Proofs.Lays.n122 prog Tryz.lays122_ren := {
 mixed := by kernel_rfl
 f122 := func72.trans (congrArg some (by kernel_rfl))
 f215 := func115.trans (congrArg some (by kernel_rfl))
 t3 := underlying3
 a3 := isAgg3
 z3 := sizeOf3
 v3 := zeroValue3
 t4 := underlying4
 a4 := isAgg4
 z4 := sizeOf4
 v4 := zeroValue4 }
open Go.RowKit in
theorem Tryz.cmp_Compare_int (x y : Int) (w : World) :
  Calls prog 72 #[.int .i64 x, .int .i64 y] w fun e w' => e = .returned (.int .i64 (Lib.compareInt x y)) ∧ w' = w := Any.cmp_Compare_int Tryz.lays122 x y w
def Tryz.laysM246_ren : Go.Shelf.Ren := ⟨fun | 246 => 73 | 283 => 116 | 284 => 117 | 285 => 118 | 286 => 119 | 129 => 159 | 317 => 168 | 318 => 169 | 319 => 170 | 320 => 171 | 337 => 195 | 338 => 196 | n => n, fun | 2 => 2 | 3 => 3 | 9 => 9 | 4 => 4 | 171 => 186 | 0 => 0 | 53 => 187 | 37 => 85 | 5 => 5 | 173 => 190 | 212 => 235 | 51 => 227 | 20 => 20 | 213 => 236 | 46 => 178 | 232 => 265 | 233 => 266 | n => n, fun | 17 => 2 | 18 => 6 | 19 => 7 | n => n⟩
def Tryz.laysM243_ren : Go.Shelf.Ren := ⟨fun | 243 => 40 | 246 => 73 | 283 => 116 | 284 => 117 | 285 => 118 | 286 => 119 | 129 => 159 | 317 => 168 | 318 => 169 | 319 => 170 | 320 => 171 | 337 => 195 | 338 => 196 | n => n, fun | 3 => 3 | 9 => 9 | 2 => 2 | 4 => 4 | 171 => 186 | 0 => 0 | 53 => 187 | 37 => 85 | 5 => 5 | 173 => 190 | 212 => 235 | 51 => 227 | 20 => 20 | 213 => 236 | 46 => 178 | 232 => 265 | 233 => 266 | n => n, fun | 17 => 2 | 18 => 6 | 19 => 7 | n => n⟩
def Tryz.laysM171_ren : Go.Shelf.Ren := ⟨fun | 171 => 18 | 243 => 40 | 246 => 73 | 283 => 116 | 284 => 117 | 285 => 118 | 286 => 119 | 129 => 159 | 317 => 168 | 318 => 169 | 319 => 170 | 320 => 171 | 337 => 195 | 338 => 196 | n => n, fun | 3 => 3 | 9 => 9 | 2 => 2 | 4 => 4 | 171 => 186 | 0 => 0 | 53 => 187 | 37 => 85 | 5 => 5 | 173 => 190 | 212 => 235 | 51 => 227 | 20 => 20 | 213 => 236 | 46 => 178 | 232 => 265 | 233 => 266 | n => n, fun | 17 => 2 | 18 => 6 | 19 => 7 | n => n⟩
theorem Tryz.laysM171 : Go.Proofs.LaysM.n171 prog Tryz.laysM171_ren := {
 mixed := by kernel_rfl
 f129 := func159.trans (congrArg some (by kernel_rfl))
 f171 := func18.trans (congrArg some (by kernel_rfl))
 f243 := func40.trans (congrArg some (by kernel_rfl))
 f246 := func73.trans (congrArg some (by kernel_rfl))
 f283 := func116.trans (congrArg some (by kernel_rfl))
 f284 := func117.trans (congrArg some (by kernel_rfl))
 f285 := func118.trans (congrArg some (by kernel_rfl))
 f286 := func119.trans (congrArg some (by kernel_rfl))
 f317 := func168.trans (congrArg some (by kernel_rfl))
 f318 := func169.trans (congrArg some (by kernel_rfl))
 f319 := func170.trans (congrArg some (by kernel_rfl))
 f320 := func171.trans (congrArg some (by kernel_rfl))
 f337 := func195.trans (congrArg some (by kernel_rfl))
 f338 := func196.trans (congrArg some (by kernel_rfl))
 t0 := underlying0
 a0 := isAgg0
 z0 := sizeOf0
 v0 := zeroValue0
 t2 := underlying2
 a2 := isAgg2
 z2 := sizeOf2
 v2 := zeroValue2
 t3 := underlying3
 a3 := isAgg3
 z3 := sizeOf3
 v3 := zeroValue3
 t4 := underlying4
 a4 := isAgg4
 z4 := sizeOf4
 v4 := zeroValue4
 t5 := underlying5
 a5 := isAgg5
 z5 := sizeOf5
 v5 := zeroValue5
 t9 := underlying9
 a9 := isAgg9
 z9 := sizeOf9
 v9 := zeroValue9
 t20 := underlying20
 a20 := isAgg20
 z20 := sizeOf20
 v20 := zeroValue20
 t37 := underlying85
 a37 := isAgg85
 z37 := sizeOf85
 v37 := zeroValue85
 t46 := underlying178
 a46 := isAgg178
 z46 := sizeOf178
 v46 := zeroValue178
 t51 := underlying227
 a51 := isAgg227
 z51 := sizeOf227
 v51 := zeroValue227
 t53 := underlying187
 a53 := isAgg187
 z53 := sizeOf187
 v53 := zeroValue187
 t171 := underlying186
 a171 := isAgg186
 z171 := sizeOf186
 v171 := zeroValue186
 t173 := underlying190
 a173 := isAgg190
 z173 := sizeOf190
 v173 := zeroValue190
 t212 := underlying235
 a212 := isAgg235
 z212 := sizeOf235
 v212 := zeroValue235
 t213 := underlying236
 a213 := isAgg236
 z213 := sizeOf236
 t232 := underlying265
 a232 := isAgg265
 z232 := sizeOf265
 v232 := zeroValue265
 t233 := underlying266
 a233 := isAgg266
 z233 := sizeOf266
 v233 := zeroValue266
 g17 := by kernel_rfl
 g18 := by kernel_rfl
 g19 := by kernel_rfl
 i0 := by kernel_rfl
 i2 := by kernel_rfl
 i3 := by kernel_rfl
 i4 := by kernel_rfl
 i5 := by kernel_rfl
 i9 := by kernel_rfl
 i20 := by kernel_rfl
 i37 := by kernel_rfl
 i46 := by kernel_rfl
 i51 := by kernel_rfl
 i53 := by kernel_rfl
 i171 := by kernel_rfl
 i173 := by kernel_rfl
 i212 := by kernel_rfl
 i232 := by kernel_rfl
 i233 := by kernel_rfl
 m17 := by kernel_rfl
 m18 := by kernel_rfl
 m19 := by kernel_rfl }
open Go.RowKit Go.Sort Go.Lib in
theorem Tryz.strconv_Itoa (n : Int) (h0 : -9223372036854775808 ≤ n) (h1 : n ≤ 9223372036854775807) (w : World) (htab : Lib.TabIs prog w "internal/strconv.uint64pow10" .u64 Lib.pow10Tab) :
  Calls prog 18 #[.int .i64 n] w fun e w' => e = .returned (.string ⟨(Lib.itoa n).toArray⟩) ∧ ∃ k os, w' = grow (w.drewN k) os := Any.strconv_Itoa Tryz.laysM171 n h0 h1 w htab
def Tryz.laysM173_ren : Go.Shelf.Ren := ⟨fun | 173 => 87 | 246 => 73 | 283 => 116 | 284 => 117 | 285 => 118 | 286 => 119 | 129 => 159 | 317 => 168 | 318 => 169 | 319 => 170 | 320 => 171 | 337 => 195 | 338 => 196 | n => n, fun | 2 => 2 | 3 => 3 | 9 => 9 | 4 => 4 | 171 => 186 | 0 => 0 | 53 => 187 | 37 => 85 | 5 => 5 | 173 => 190 | 212 => 235 | 51 => 227 | 20 => 20 | 213 => 236 | 46 => 178 | 232 => 265 | 233 => 266 | n => n, fun | 17 => 2 | 18 => 6 | 19 => 7 | n => n⟩
theorem Tryz.laysM173 : Go.Proofs.LaysM.n173 prog Tryz.laysM173_ren := {
 mixed := by kernel_rfl
 f129 := func159.trans (congrArg some (by kernel_rfl))
 f173 := func87.trans (congrArg some (by kernel_rfl))
 f246 := func73.trans (congrArg some (by kernel_rfl))
 f283 := func116.trans (congrArg some (by kernel_rfl))
 f284 := func117.trans (congrArg some (by kernel_rfl))
 f285 := func118.trans (congrArg some (by kernel_rfl))
 f286 := func119.trans (congrArg some (by kernel_rfl))
 f317 := func168.trans (congrArg some (by kernel_rfl))
 f318 := func169.trans (congrArg some (by kernel_rfl))
 f319 := func170.trans (congrArg some (by kernel_rfl))
 f320 := func171.trans (congrArg some (by kernel_rfl))
 f337 := func195.trans (congrArg some (by kernel_rfl))
 f338 := func196.trans (congrArg some (by kernel_rfl))
 t0 := underlying0
 a0 := isAgg0
 z0 := sizeOf0
 v0 := zeroValue0
 t2 := underlying2
 a2 := isAgg2
 z2 := sizeOf2
 v2 := zeroValue2
 t3 := underlying3
 a3 := isAgg3
 z3 := sizeOf3
 v3 := zeroValue3
 t4 := underlying4
 a4 := isAgg4
 z4 := sizeOf4
 v4 := zeroValue4
 t5 := underlying5
 a5 := isAgg5
 z5 := sizeOf5
 v5 := zeroValue5
 t9 := underlying9
 a9 := isAgg9
 z9 := sizeOf9
 v9 := zeroValue9
 t20 := underlying20
 a20 := isAgg20
 z20 := sizeOf20
 v20 := zeroValue20
 t37 := underlying85
 a37 := isAgg85
 z37 := sizeOf85
 v37 := zeroValue85
 t46 := underlying178
 a46 := isAgg178
 z46 := sizeOf178
 v46 := zeroValue178
 t51 := underlying227
 a51 := isAgg227
 z51 := sizeOf227
 v51 := zeroValue227
 t53 := underlying187
 a53 := isAgg187
 z53 := sizeOf187
 v53 := zeroValue187
 t171 := underlying186
 a171 := isAgg186
 z171 := sizeOf186
 v171 := zeroValue186
 t173 := underlying190
 a173 := isAgg190
 z173 := sizeOf190
 v173 := zeroValue190
 t212 := underlying235
 a212 := isAgg235
 z212 := sizeOf235
 v212 := zeroValue235
 t213 := underlying236
 a213 := isAgg236
 z213 := sizeOf236
 t232 := underlying265
 a232 := isAgg265
 z232 := sizeOf265
 v232 := zeroValue265
 t233 := underlying266
 a233 := isAgg266
 z233 := sizeOf266
 v233 := zeroValue266
 g17 := by kernel_rfl
 g18 := by kernel_rfl
 g19 := by kernel_rfl
 i0 := by kernel_rfl
 i2 := by kernel_rfl
 i3 := by kernel_rfl
 i4 := by kernel_rfl
 i5 := by kernel_rfl
 i9 := by kernel_rfl
 i20 := by kernel_rfl
 i37 := by kernel_rfl
 i46 := by kernel_rfl
 i51 := by kernel_rfl
 i53 := by kernel_rfl
 i171 := by kernel_rfl
 i173 := by kernel_rfl
 i212 := by kernel_rfl
 i232 := by kernel_rfl
 i233 := by kernel_rfl
 m17 := by kernel_rfl
 m18 := by kernel_rfl
 m19 := by kernel_rfl }
open Go.RowKit Go.Sort Go.Lib in
theorem Tryz.strconv_FormatInt_10 (n : Int) (h0 : -9223372036854775808 ≤ n) (h1 : n ≤ 9223372036854775807) (w : World) (htab : Lib.TabIs prog w "internal/strconv.uint64pow10" .u64 Lib.pow10Tab) :
  Calls prog 87 #[.int .i64 n, .int .i64 10] w fun e w' => e = .returned (.string ⟨(Lib.itoa n).toArray⟩) ∧ ∃ k os, w' = grow (w.drewN k) os := Any.strconv_FormatInt_10 Tryz.laysM173 n h0 h1 w htab
def Tryz.laysC245_ren : Go.Shelf.Ren := ⟨fun | 245 => 218 | 279 => 220 | 280 => 221 | 281 => 222 | 282 => 223 | 316 => 226 | 171 => 18 | 205 => 227 | 243 => 40 | 246 => 73 | 283 => 116 | 284 => 117 | 285 => 118 | 286 => 119 | 129 => 159 | 317 => 168 | 318 => 169 | 319 => 170 | 320 => 171 | 337 => 195 | 338 => 196 | n => n, fun | 9 => 9 | 3 => 3 | 75 => 90 | 167 => 289 | 4 => 4 | 168 => 292 | 210 => 298 | 37 => 85 | 0 => 0 | 127 => 144 | 145 => 302 | 143 => 300 | 2 => 2 | 171 => 186 | 53 => 187 | 5 => 5 | 173 => 190 | 212 => 235 | 51 => 227 | 20 => 20 | 213 => 236 | 46 => 178 | 232 => 265 | 233 => 266 | 80 => 100 | n => n, fun | 15 => 8 | 16 => 9 | 17 => 2 | 18 => 6 | 19 => 7 | n => n⟩
def Tryz.laysC174_ren : Go.Shelf.Ren := ⟨fun | 174 => 215 | 247 => 217 | 245 => 218 | 287 => 219 | 279 => 220 | 280 => 221 | 281 => 222 | 282 => 223 | 321 => 224 | 322 => 225 | 316 => 226 | 171 => 18 | 205 => 227 | 243 => 40 | 246 => 73 | 283 => 116 | 284 => 117 | 285 => 118 | 286 => 119 | 129 => 159 | 317 => 168 | 318 => 169 | 319 => 170 | 320 => 171 | 337 => 195 | 338 => 196 | n => n, fun | 9 => 9 | 3 => 3 | 2 => 2 | 75 => 90 | 85 => 284 | 4 => 4 | 167 => 289 | 5 => 5 | 53 => 187 | 175 => 290 | 46 => 178 | 168 => 292 | 37 => 85 | 0 => 0 | 210 => 298 | 21 => 21 | 127 => 144 | 145 => 302 | 143 => 300 | 171 => 186 | 173 => 190 | 212 => 235 | 51 => 227 | 20 => 20 | 213 => 236 | 232 => 265 | 233 => 266 | 80 => 100 | n => n, fun | 15 => 8 | 16 => 9 | 17 => 2 | 18 => 6 | 19 => 7 | n => n⟩
theorem Tryz.laysC174 : Go.Proofs.LaysC.n174 prog Tryz.laysC174_ren := {
 mixed := by kernel_rfl
 f129 := func159.trans (congrArg some (by kernel_rfl))
 f171 := func18.trans (congrArg some (by kernel_rfl))
 f174 := func215.trans (congrArg some (by kernel_rfl))
 f205 := func227.trans (congrArg some (by kernel_rfl))
 f243 := func40.trans (congrArg some (by kernel_rfl))
 f245 := func218.trans (congrArg some (by kernel_rfl))
 f246 := func73.trans (congrArg some (by kernel_rfl))
 f247 := func217.trans (congrArg some (by kernel_rfl))
 f279 := func220.trans (congrArg some (by kernel_rfl))
 f280 := func221.trans (congrArg some (by kernel_rfl))
 f281 := func222.trans (congrArg some (by kernel_rfl))
 f282 := func223.trans (congrArg some (by kernel_rfl))
 f283 := func116.trans (congrArg some (by kernel_rfl))
 f284 := func117.trans (congrArg some (by kernel_rfl))
 f285 := func118.trans (congrArg some (by kernel_rfl))
 f286 := func119.trans (congrArg some (by kernel_rfl))
 f287 := func219.trans (congrArg some (by kernel_rfl))
 f316 := func226.trans (congrArg some (by kernel_rfl))
 f317 := func168.trans (congrArg some (by kernel_rfl))
 f318 := func169.trans (congrArg some (by kernel_rfl))
 f319 := func170.trans (congrArg some (by kernel_rfl))
 f320 := func171.trans (congrArg some (by kernel_rfl))
 f321 := func224.trans (congrArg some (by kernel_rfl))
 f322 := func225.trans (congrArg some (by kernel_rfl))
 f337 := func195.trans (congrArg some (by kernel_rfl))
 f338 := func196.trans (congrArg some (by kernel_rfl))
 t0 := underlying0
 a0 := isAgg0
 z0 := sizeOf0
 v0 := zeroValue0
 t2 := underlying2
 a2 := isAgg2
 z2 := sizeOf2
 v2 := zeroValue2
 t3 := underlying3
 a3 := isAgg3
 z3 := sizeOf3
 v3 := zeroValue3
 t4 := underlying4
 a4 := isAgg4
 z4 := sizeOf4
 v4 := zeroValue4
 t5 := underlying5
 a5 := isAgg5
 z5 := sizeOf5
 v5 := zeroValue5
 t9 := underlying9
 a9 := isAgg9
 z9 := sizeOf9
 v9 := zeroValue9
 t20 := underlying20
 a20 := isAgg20
 z20 := sizeOf20
 v20 := zeroValue20
 t21 := underlying21
 a21 := isAgg21
 z21 := sizeOf21
 v21 := zeroValue21
 t37 := underlying85
 a37 := isAgg85
 z37 := sizeOf85
 v37 := zeroValue85
 t46 := underlying178
 a46 := isAgg178
 z46 := sizeOf178
 v46 := zeroValue178
 t51 := underlying227
 a51 := isAgg227
 z51 := sizeOf227
 v51 := zeroValue227
 t53 := underlying187
 a53 := isAgg187
 z53 := sizeOf187
 v53 := zeroValue187
 t75 := underlying90
 a75 := isAgg90
 z75 := sizeOf90
 v75 := zeroValue90
 t85 := underlying284
 a85 := isAgg284
 z85 := sizeOf284
 v85 := zeroValue284
 t127 := underlying144
 a127 := isAgg144
 z127 := sizeOf144
 v127 := zeroValue144
 t143 := underlying300
 a143 := isAgg300
 z143 := sizeOf300
 v143 := zeroValue300
 t145 := underlying302
 a145 := isAgg302
 z145 := sizeOf302
 v145 := zeroValue302
 t167 := underlying289
 a167 := isAgg289
 z167 := sizeOf289
 v167 := zeroValue289
 t168 := underlying292
 a168 := isAgg292
 z168 := sizeOf292
 v168 := zeroValue292
 t171 := underlying186
 a171 := isAgg186
 z171 := sizeOf186
 v171 := zeroValue186
 t173 := underlying190
 a173 := isAgg190
 z173 := sizeOf190
 v173 := zeroValue190
 t175 := underlying290
 a175 := isAgg290
 z175 := sizeOf290
 v175 := zeroValue290
 t210 := underlying298
 a210 := isAgg298
 z210 := sizeOf298
 v210 := zeroValue298
 t212 := underlying235
 a212 := isAgg235
 z212 := sizeOf235
 v212 := zeroValue235
 t213 := underlying236
 a213 := isAgg236
 z213 := sizeOf236
 t232 := underlying265
 a232 := isAgg265
 z232 := sizeOf265
 v232 := zeroValue265
 t233 := underlying266
 a233 := isAgg266
 z233 := sizeOf266
 v233 := zeroValue266
 g15 := by kernel_rfl
 g16 := by kernel_rfl
 g17 := by kernel_rfl
 g18 := by kernel_rfl
 g19 := by kernel_rfl
 t80 := underlying100
 a80 := isAgg100
 z80 := sizeOf100
 v80 := zeroValue100
 i0 := by kernel_rfl
 i2 := by kernel_rfl
 i3 := by kernel_rfl
 i4 := by kernel_rfl
 i5 := by kernel_rfl
 i9 := by kernel_rfl
 i20 := by kernel_rfl
 i21 := by kernel_rfl
 i37 := by kernel_rfl
 i46 := by kernel_rfl
 i51 := by kernel_rfl
 i53 := by kernel_rfl
 i75 := by kernel_rfl
 i80 := by kernel_rfl
 i85 := by kernel_rfl
 i127 := by kernel_rfl
 i143 := by kernel_rfl
 i145 := by kernel_rfl
 i167 := by kernel_rfl
 i168 := by kernel_rfl
 i171 := by kernel_rfl
 i173 := by kernel_rfl
 i175 := by kernel_rfl
 i210 := by kernel_rfl
 i212 := by kernel_rfl
 i232 := by kernel_rfl
 i233 := by kernel_rfl
 m15 := by kernel_rfl
 m16 := by kernel_rfl
 m17 := by kernel_rfl
 m18 := by kernel_rfl
 m19 := by kernel_rfl
 c0 := by kernel_rfl
 c2 := by kernel_rfl
 c3 := by kernel_rfl
 c4 := by kernel_rfl
 c5 := by kernel_rfl
 c9 := by kernel_rfl
 c20 := by kernel_rfl
 c21 := by kernel_rfl
 c37 := by kernel_rfl
 c46 := by kernel_rfl
 c51 := by kernel_rfl
 c53 := by kernel_rfl
 c75 := by kernel_rfl
 c80 := by kernel_rfl
 c85 := by kernel_rfl
 c127 := by kernel_rfl
 c143 := by kernel_rfl
 c145 := by kernel_rfl
 c167 := by kernel_rfl
 c168 := by kernel_rfl
 c171 := by kernel_rfl
 c173 := by kernel_rfl
 c175 := by kernel_rfl
 c210 := by kernel_rfl
 c212 := by kernel_rfl
 c213 := by kernel_rfl
 c232 := by kernel_rfl
 c233 := by kernel_rfl }
def noNum : Lib.NumEnd Int := Lib.parseIntB 64 []
open Go.RowKit in
theorem Tryz.strconv_ParseInt_10_at64_ok (s : ByteArray) (hmax : s.size ≤ 9223372036854775806) (v : Int) (h : Lib.parseIntB 64 s.data.toList = .ok v) (w : World) :
  Calls prog 215 #[.string s, .int .i64 10, .int .i64 64] w fun e w' => e = .returned (.tuple #[.int .i64 v, .nilIface]) ∧ (w' = w ∨ ∃ t, w' = Lib.bytesWorld w 5 t) := Any.strconv_ParseInt_10_at64_ok Tryz.laysC174 s hmax v h w
open Go.RowKit in
theorem Tryz.strconv_ParseInt_10_at64_syntax (s : ByteArray) (hlim : s.size ≤ 281474976710656) (h : Lib.parseIntB 64 s.data.toList = noNum) (ev : Value) (w : World) (hv : w.cell? ⟨8, 0, none⟩ = some ev) (hev : ev = .nilIface ∨ ∃ te pe, ev = .iface te pe) :
  Calls prog 215 #[.string s, .int .i64 10, .int .i64 64] w fun e w' => ∃ N, e = .returned (.tuple #[.int .i64 (0), .iface 292 (.pointer (some ⟨N, 0, none⟩))]) ∧ w.heap.size ≤ N ∧ w'.heap[N]? = some (.cells #[.string ⟨#[80, 97, 114, 115, 101, 73, 110, 116]⟩, .string s, ev] 298 (0, 0)) ∧ Below w.heap.size w w' := Any.strconv_ParseInt_10_at64_syntax Tryz.laysC174 s hlim h ev w hv hev
open Go.RowKit in
theorem Tryz.strconv_ParseInt_10_at64_range (s : ByteArray) (hlim : s.size ≤ 281474976710656) (h : Lib.parseIntB 64 s.data.toList = .range) (ev : Value) (w : World) (hv : w.cell? ⟨9, 0, none⟩ = some ev) (hev : ev = .nilIface ∨ ∃ te pe, ev = .iface te pe) :
  Calls prog 215 #[.string s, .int .i64 10, .int .i64 64] w fun e w' => ∃ N, e = .returned (.tuple #[.int .i64 (Lib.intSat 64 s.data.toList), .iface 292 (.pointer (some ⟨N, 0, none⟩))]) ∧ w.heap.size ≤ N ∧ w'.heap[N]? = some (.cells #[.string ⟨#[80, 97, 114, 115, 101, 73, 110, 116]⟩, .string s, ev] 298 (0, 0)) ∧ Below w.heap.size w w' := Any.strconv_ParseInt_10_at64_range Tryz.laysC174 s hlim h ev w hv hev
def Tryz.lays219_ren : Go.Shelf.Ren := ⟨fun | 219 => 181 | 217 => 198 | 225 => 199 | 224 => 200 | 267 => 201 | 266 => 209 | 314 => 210 | n => n, fun | 9 => 9 | 3 => 3 | 4 => 4 | 5 => 5 | 46 => 178 | 146 => 267 | 51 => 227 | n => n, fun | 1 => 3 | n => n⟩
def Tryz.lays145_ren : Go.Shelf.Ren := ⟨fun | 145 => 94 | 220 => 137 | 219 => 181 | 217 => 198 | 225 => 199 | 224 => 200 | 267 => 201 | 266 => 209 | 314 => 210 | n => n, fun | 9 => 9 | 4 => 4 | 59 => 151 | 3 => 3 | 5 => 5 | 46 => 178 | 146 => 267 | 51 => 227 | n => n, fun | 1 => 3 | n => n⟩
theorem Tryz.lays145 : Go.Proofs.Lays.n145 prog Tryz.lays145_ren := {
 mixed := by kernel_rfl
 f145 := func94.trans (congrArg some (by kernel_rfl))
 f217 := func198.trans (congrArg some (by kernel_rfl))
 f219 := func181.trans (congrArg some (by kernel_rfl))
 f220 := func137.trans (congrArg some (by kernel_rfl))
 f224 := func200.trans (congrArg some (by kernel_rfl))
 f225 := func199.trans (congrArg some (by kernel_rfl))
 f266 := func209.trans (congrArg some (by kernel_rfl))
 f267 := func201.trans (congrArg some (by kernel_rfl))
 f314 := func210.trans (congrArg some (by kernel_rfl))
 t3 := underlying3
 a3 := isAgg3
 z3 := sizeOf3
 v3 := zeroValue3
 t4 := underlying4
 a4 := isAgg4
 z4 := sizeOf4
 v4 := zeroValue4
 t5 := underlying5
 a5 := isAgg5
 z5 := sizeOf5
 v5 := zeroValue5
 t9 := underlying9
 a9 := isAgg9
 z9 := sizeOf9
 v9 := zeroValue9
 t46 := underlying178
 a46 := isAgg178
 z46 := sizeOf178
 v46 := zeroValue178
 t51 := underlying227
 a51 := isAgg227
 z51 := sizeOf227
 v51 := zeroValue227
 t59 := underlying151
 a59 := isAgg151
 z59 := sizeOf151
 v59 := zeroValue151
 t146 := underlying267
 a146 := isAgg267
 z146 := sizeOf267
 v146 := zeroValue267
 g1 := by kernel_rfl }
open Go.RowKit Go.Lib in
theorem Tryz.strings_Cut (s sep : ByteArray) (m : Int) (w : World) (hs : s.size < 4294967281) (hm : w.cell? ⟨3, 0, none⟩ = some (.int .i64 m)) :
  Calls prog 94 #[.string s, .string sep] w fun e w' => e = .returned (.tuple #[.string ⟨(Lib.cut s.data.toList sep.data.toList).1.toArray⟩, .string ⟨(Lib.cut s.data.toList sep.data.toList).2.1.toArray⟩, .bool (Lib.cut s.data.toList sep.data.toList).2.2]) ∧ ∃ n, w' = w.drewN n := Any.strings_Cut Tryz.lays145 s sep m w hs hm
def Tryz.lays189_ren : Go.Shelf.Ren := ⟨fun | 189 => 66 | 125 => 111 | 257 => 110 | 128 => 158 | 129 => 159 | 294 => 149 | 295 => 150 | 296 => 151 | 297 => 152 | 298 => 153 | 299 => 154 | 216 => 155 | 300 => 156 | 301 => 157 | 328 => 187 | 329 => 188 | 330 => 189 | 331 => 190 | 332 => 191 | 215 => 115 | 343 => 207 | n => n, fun | 28 => 23 | 3 => 3 | 46 => 178 | 0 => 0 | 51 => 227 | 53 => 187 | 4 => 4 | 183 => 221 | 182 => 220 | 131 => 131 | 5 => 5 | 9 => 9 | 218 => 246 | 222 => 250 | 228 => 261 | 229 => 262 | n => n, fun | n => n⟩
theorem Tryz.lays189 : Go.Proofs.Lays.n189 prog Tryz.lays189_ren := {
 mixed := by kernel_rfl
 f125 := func111.trans (congrArg some (by kernel_rfl))
 f128 := func158.trans (congrArg some (by kernel_rfl))
 f129 := func159.trans (congrArg some (by kernel_rfl))
 f189 := func66.trans (congrArg some (by kernel_rfl))
 f215 := func115.trans (congrArg some (by kernel_rfl))
 f216 := func155.trans (congrArg some (by kernel_rfl))
 f257 := func110.trans (congrArg some (by kernel_rfl))
 f294 := func149.trans (congrArg some (by kernel_rfl))
 f295 := func150.trans (congrArg some (by kernel_rfl))
 f296 := func151.trans (congrArg some (by kernel_rfl))
 f297 := func152.trans (congrArg some (by kernel_rfl))
 f298 := func153.trans (congrArg some (by kernel_rfl))
 f299 := func154.trans (congrArg some (by kernel_rfl))
 f300 := func156.trans (congrArg some (by kernel_rfl))
 f301 := func157.trans (congrArg some (by kernel_rfl))
 f328 := func187.trans (congrArg some (by kernel_rfl))
 f329 := func188.trans (congrArg some (by kernel_rfl))
 f330 := func189.trans (congrArg some (by kernel_rfl))
 f331 := func190.trans (congrArg some (by kernel_rfl))
 f332 := func191.trans (congrArg some (by kernel_rfl))
 f343 := func207.trans (congrArg some (by kernel_rfl))
 t0 := underlying0
 a0 := isAgg0
 z0 := sizeOf0
 v0 := zeroValue0
 t3 := underlying3
 a3 := isAgg3
 z3 := sizeOf3
 v3 := zeroValue3
 t4 := underlying4
 a4 := isAgg4
 z4 := sizeOf4
 v4 := zeroValue4
 t5 := underlying5
 a5 := isAgg5
 z5 := sizeOf5
 v5 := zeroValue5
 t9 := underlying9
 a9 := isAgg9
 z9 := sizeOf9
 v9 := zeroValue9
 t28 := underlying23
 a28 := isAgg23
 z28 := sizeOf23
 v28 := zeroValue23
 t46 := underlying178
 a46 := isAgg178
 z46 := sizeOf178
 v46 := zeroValue178
 t51 := underlying227
 a51 := isAgg227
 z51 := sizeOf227
 v51 := zeroValue227
 t53 := underlying187
 a53 := isAgg187
 z53 := sizeOf187
 v53 := zeroValue187
 t131 := underlying131
 a131 := isAgg131
 z131 := sizeOf131
 v131 := zeroValue131
 t182 := underlying220
 a182 := isAgg220
 z182 := sizeOf220
 v182 := zeroValue220
 t183 := underlying221
 a183 := isAgg221
 z183 := sizeOf221
 v183 := zeroValue221
 t218 := underlying246
 a218 := isAgg246
 z218 := sizeOf246
 v218 := zeroValue246
 t222 := underlying250
 a222 := isAgg250
 z222 := sizeOf250
 v222 := zeroValue250
 t228 := underlying261
 a228 := isAgg261
 z228 := sizeOf261
 v228 := zeroValue261
 t229 := underlying262
 a229 := isAgg262
 z229 := sizeOf262
 v229 := zeroValue262 }
open Go.Sort Go.RowKit in
theorem Tryz.slices_Sort_int (blk off cap : Nat) (zs : List Int) (w : World) (hH : Holds (Value.int .i64) w blk off zs.toArray) (hblk : blk < w.heap.size) (hsz : zs.length < 4611686018427387904) :
  Calls prog 66 #[.slice (some ⟨blk, off, none⟩) zs.length cap] w fun e w' =>
   e = .returned (.tuple #[]) ∧ ∃ n os, w' = grow (putRow (Value.int .i64) (Sort.ahead w n) blk off (zs.mergeSort fun x y => decide (x ≤ y)).toArray) os := Any.slices_Sort_int Tryz.lays189 blk off cap zs w hH hblk hsz
def Tryz.lays221_ren : Go.Shelf.Ren := ⟨fun | 221 => 93 | 268 => 134 | 138 => 135 | 143 => 136 | 195 => 178 | 197 => 179 | 218 => 180 | 219 => 181 | 260 => 197 | 217 => 198 | 225 => 199 | 224 => 200 | 267 => 201 | 266 => 209 | 314 => 210 | n => n, fun | 9 => 9 | 3 => 3 | 31 => 88 | 4 => 4 | 0 => 0 | 105 => 242 | 21 => 21 | 5 => 5 | 46 => 178 | 119 => 206 | 139 => 209 | 138 => 208 | 146 => 267 | 51 => 227 | n => n, fun | 1 => 3 | 3 => 0 | 4 => 1 | n => n⟩
def Tryz.lays146_ren : Go.Shelf.Ren := ⟨fun | 146 => 56 | 221 => 93 | 268 => 134 | 138 => 135 | 143 => 136 | 195 => 178 | 197 => 179 | 218 => 180 | 219 => 181 | 260 => 197 | 217 => 198 | 225 => 199 | 224 => 200 | 267 => 201 | 266 => 209 | 314 => 210 | n => n, fun | 9 => 9 | 31 => 88 | 3 => 3 | 4 => 4 | 0 => 0 | 105 => 242 | 21 => 21 | 5 => 5 | 46 => 178 | 119 => 206 | 139 => 209 | 138 => 208 | 146 => 267 | 51 => 227 | n => n, fun | 1 => 3 | 3 => 0 | 4 => 1 | n => n⟩
theorem Tryz.lays146 : Go.Proofs.Lays.n146 prog Tryz.lays146_ren := {
 mixed := by kernel_rfl
 f138 := func135.trans (congrArg some (by kernel_rfl))
 f143 := func136.trans (congrArg some (by kernel_rfl))
 f146 := func56.trans (congrArg some (by kernel_rfl))
 f195 := func178.trans (congrArg some (by kernel_rfl))
 f197 := func179.trans (congrArg some (by kernel_rfl))
 f217 := func198.trans (congrArg some (by kernel_rfl))
 f218 := func180.trans (congrArg some (by kernel_rfl))
 f219 := func181.trans (congrArg some (by kernel_rfl))
 f221 := func93.trans (congrArg some (by kernel_rfl))
 f224 := func200.trans (congrArg some (by kernel_rfl))
 f225 := func199.trans (congrArg some (by kernel_rfl))
 f260 := func197.trans (congrArg some (by kernel_rfl))
 f266 := func209.trans (congrArg some (by kernel_rfl))
 f267 := func201.trans (congrArg some (by kernel_rfl))
 f268 := func134.trans (congrArg some (by kernel_rfl))
 f314 := func210.trans (congrArg some (by kernel_rfl))
 t0 := underlying0
 a0 := isAgg0
 z0 := sizeOf0
 v0 := zeroValue0
 t3 := underlying3
 a3 := isAgg3
 z3 := sizeOf3
 v3 := zeroValue3
 t4 := underlying4
 a4 := isAgg4
 z4 := sizeOf4
 v4 := zeroValue4
 t5 := underlying5
 a5 := isAgg5
 z5 := sizeOf5
 v5 := zeroValue5
 t9 := underlying9
 a9 := isAgg9
 z9 := sizeOf9
 v9 := zeroValue9
 t21 := underlying21
 a21 := isAgg21
 z21 := sizeOf21
 v21 := zeroValue21
 t31 := underlying88
 a31 := isAgg88
 z31 := sizeOf88
 v31 := zeroValue88
 t46 := underlying178
 a46 := isAgg178
 z46 := sizeOf178
 v46 := zeroValue178
 t51 := underlying227
 a51 := isAgg227
 z51 := sizeOf227
 v51 := zeroValue227
 t105 := underlying242
 a105 := isAgg242
 z105 := sizeOf242
 v105 := zeroValue242
 t119 := underlying206
 a119 := isAgg206
 z119 := sizeOf206
 t138 := underlying208
 a138 := isAgg208
 z138 := sizeOf208
 v138 := zeroValue208
 t139 := underlying209
 a139 := isAgg209
 z139 := sizeOf209
 v139 := zeroValue209
 t146 := underlying267
 a146 := isAgg267
 z146 := sizeOf267
 v146 := zeroValue267
 g1 := by kernel_rfl
 g3 := by kernel_rfl
 g4 := by kernel_rfl }
open Go.RowKit Go.Lib in
theorem Tryz.strings_Split (s sep : ByteArray) (m : Int) (w : World) (hs : s.size < 4294967281) (hm : w.cell? ⟨3, 0, none⟩ = some (.int .i64 m)) (h1 : 1 ≤ sep.size) :
  Calls prog 56 #[.string s, .string sep] w fun e w' =>
   e = .returned (.slice (some ⟨w.heap.size, 0, none⟩) (Lib.countB s sep + 1) (Lib.countB s sep + 1)) ∧ w' = w.alloc (.cells ((Lib.splitB sep 0 (Lib.countB s sep) s).map Value.string).toArray 9) := Any.strings_Split Tryz.lays146 (by kernel_rfl) s sep m w hs hm h1
def Tryz.lays200_ren : Go.Shelf.Ren := ⟨fun | 200 => 182 | 261 => 202 | 311 => 211 | 312 => 212 | n => n, fun | 21 => 21 | 4 => 4 | 51 => 227 | 5 => 5 | 119 => 206 | 0 => 0 | 141 => 255 | 196 => 272 | 193 => 269 | 3 => 3 | 198 => 275 | 49 => 273 | 194 => 270 | 201 => 278 | 226 => 286 | 46 => 178 | 227 => 287 | n => n, fun | 7 => 4 | 8 => 5 | n => n⟩
theorem Tryz.lays200 : Go.Proofs.Lays.n200 prog Tryz.lays200_ren := {
 mixed := by kernel_rfl
 f200 := func182.trans (congrArg some (by kernel_rfl))
 f261 := func202.trans (congrArg some (by kernel_rfl))
 f311 := func211.trans (congrArg some (by kernel_rfl))
 f312 := func212.trans (congrArg some (by kernel_rfl))
 t0 := underlying0
 a0 := isAgg0
 z0 := sizeOf0
 v0 := zeroValue0
 t3 := underlying3
 a3 := isAgg3
 z3 := sizeOf3
 v3 := zeroValue3
 t4 := underlying4
 a4 := isAgg4
 z4 := sizeOf4
 v4 := zeroValue4
 t5 := underlying5
 a5 := isAgg5
 z5 := sizeOf5
 v5 := zeroValue5
 t21 := underlying21
 a21 := isAgg21
 z21 := sizeOf21
 v21 := zeroValue21
 t46 := underlying178
 a46 := isAgg178
 z46 := sizeOf178
 v46 := zeroValue178
 t49 := underlying273
 a49 := isAgg273
 z49 := sizeOf273
 v49 := zeroValue273
 t51 := underlying227
 a51 := isAgg227
 z51 := sizeOf227
 v51 := zeroValue227
 t119 := underlying206
 a119 := isAgg206
 z119 := sizeOf206
 t141 := underlying255
 a141 := isAgg255
 z141 := sizeOf255
 v141 := zeroValue255
 t193 := underlying269
 a193 := isAgg269
 z193 := sizeOf269
 v193 := zeroValue269
 t194 := underlying270
 a194 := isAgg270
 z194 := sizeOf270
 v194 := zeroValue270
 t196 := underlying272
 a196 := isAgg272
 z196 := sizeOf272
 v196 := zeroValue272
 t198 := underlying275
 a198 := isAgg275
 z198 := sizeOf275
 v198 := zeroValue275
 t201 := underlying278
 a201 := isAgg278
 z201 := sizeOf278
 v201 := zeroValue278
 t226 := underlying286
 a226 := isAgg286
 z226 := sizeOf286
 v226 := zeroValue286
 t227 := underlying287
 a227 := isAgg287
 z227 := sizeOf287
 v227 := zeroValue287
 g7 := by kernel_rfl
 g8 := by kernel_rfl }
def Tryz.lays197_ren : Go.Shelf.Ren := ⟨fun | 197 => 179 | 260 => 197 | n => n, fun | 9 => 9 | 21 => 21 | 3 => 3 | 4 => 4 | 5 => 5 | 105 => 242 | 119 => 206 | 0 => 0 | 46 => 178 | 139 => 209 | 138 => 208 | n => n, fun | 3 => 0 | 4 => 1 | n => n⟩
def Tryz.lays260_ren : Go.Shelf.Ren := ⟨fun | 260 => 197 | n => n, fun | 9 => 9 | 21 => 21 | 3 => 3 | 4 => 4 | 5 => 5 | 119 => 206 | 0 => 0 | 46 => 178 | 139 => 209 | 138 => 208 | n => n, fun | 3 => 0 | 4 => 1 | n => n⟩
theorem Tryz.lays260 : Go.Proofs.Lays.n260 prog Tryz.lays260_ren := {
 mixed := by kernel_rfl
 f260 := func197.trans (congrArg some (by kernel_rfl))
 t0 := underlying0
 a0 := isAgg0
 z0 := sizeOf0
 v0 := zeroValue0
 t3 := underlying3
 a3 := isAgg3
 z3 := sizeOf3
 v3 := zeroValue3
 t4 := underlying4
 a4 := isAgg4
 z4 := sizeOf4
 v4 := zeroValue4
 t5 := underlying5
 a5 := isAgg5
 z5 := sizeOf5
 v5 := zeroValue5
 t9 := underlying9
 a9 := isAgg9
 z9 := sizeOf9
 v9 := zeroValue9
 t21 := underlying21
 a21 := isAgg21
 z21 := sizeOf21
 v21 := zeroValue21
 t46 := underlying178
 a46 := isAgg178
 z46 := sizeOf178
 v46 := zeroValue178
 t119 := underlying206
 a119 := isAgg206
 z119 := sizeOf206
 t138 := underlying208
 a138 := isAgg208
 z138 := sizeOf208
 v138 := zeroValue208
 t139 := underlying209
 a139 := isAgg209
 z139 := sizeOf209
 v139 := zeroValue209
 g3 := by kernel_rfl
 g4 := by kernel_rfl }
open Go.RowKit Go.Lib in
theorem Tryz.unicode_IsLetter_all (r : Int) (w : World) (hlo : -2147483648 ≤ r) (hhi : r ≤ 2147483647) (htab : Lib.TabIs prog w "unicode.properties" .u8 Lib.propertiesTab) (hV : RVar 5 letterT w) :
  Calls prog 182 #[.int .i32 r] w fun e w' => e = .returned (.bool (isLetterU r)) ∧ Below w.heap.size w w' := Any.unicode_IsLetter_all Tryz.lays200 (by kernel_rfl) r w hlo hhi htab hV
def Tryz.lays107_ren : Go.Shelf.Ren := ⟨fun | 107 => 69 | 108 => 113 | n => n, fun | 28 => 23 | 3 => 3 | 4 => 4 | 0 => 0 | n => n, fun | n => n⟩
def Tryz.lays112_ren : Go.Shelf.Ren := ⟨fun | 112 => 112 | n => n, fun | 28 => 23 | 3 => 3 | 4 => 4 | 0 => 0 | n => n, fun | n => n⟩
theorem Tryz.lays112 : Go.Proofs.Lays.n112 prog Tryz.lays112_ren := {
 mixed := by kernel_rfl
 f112 := func112.trans (congrArg some (by kernel_rfl))
 t0 := underlying0
 a0 := isAgg0
 z0 := sizeOf0
 v0 := zeroValue0
 t3 := underlying3
 a3 := isAgg3
 z3 := sizeOf3
 v3 := zeroValue3
 t4 := underlying4
 a4 := isAgg4
 z4 := sizeOf4
 v4 := zeroValue4
 t28 := underlying23
 a28 := isAgg23
 z28 := sizeOf23
 v28 := zeroValue23 }
open Go.RowKit Go.Lib Go.Sort in
theorem Tryz.slices_Reverse_int (blk off cap : Nat) (zs : List Int) (w : World) (hH : Holds (Value.int .i64) w blk off zs.toArray) (hsz : zs.length ≤ 9223372036854775807) :
  Calls prog 112 #[.slice (some ⟨blk, off, none⟩) zs.length cap] w fun e w' => e = .returned (.tuple #[]) ∧ ∃ n, w' = putRow (Value.int .i64) (Sort.ahead w n) blk off zs.reverse.toArray := Any.slices_Reverse_int Tryz.lays112 blk off cap zs w hH hsz
open Go.RowKit Go.Lib Go.Sort in
theorem Tryz.slices_Reverse_int_empty (a : Option Addr) (cap : Nat) (w : World) :
  Calls prog 112 #[.slice a 0 cap] w fun e w' => e = .returned (.tuple #[]) ∧ w' = w := Any.slices_Reverse_int_empty Tryz.lays112 a cap w
open Go.RowKit Go.Sort in
theorem Tryz.slices_Sort_int_none (p : Option Addr) (cap : Nat) (w : World) :
  Calls prog 66 #[.slice p 0 cap] w fun e w' => e = .returned (.tuple #[]) ∧ w' = w := Any.slices_Sort_int_none Tryz.lays189 p cap w
def Tryz.lays196_ren : Go.Shelf.Ren := ⟨fun | 196 => 92 | 259 => 133 | n => n, fun | 9 => 9 | 4 => 4 | 3 => 3 | 5 => 5 | 12 => 12 | 119 => 206 | 0 => 0 | 46 => 178 | 139 => 209 | 138 => 208 | 53 => 187 | n => n, fun | 3 => 0 | 4 => 1 | n => n⟩
theorem Tryz.lays196 : Go.Proofs.Lays.n196 prog Tryz.lays196_ren := {
 mixed := by kernel_rfl
 f196 := func92.trans (congrArg some (by kernel_rfl))
 f259 := func133.trans (congrArg some (by kernel_rfl))
 t0 := underlying0
 a0 := isAgg0
 z0 := sizeOf0
 v0 := zeroValue0
 t3 := underlying3
 a3 := isAgg3
 z3 := sizeOf3
 v3 := zeroValue3
 t4 := underlying4
 a4 := isAgg4
 z4 := sizeOf4
 v4 := zeroValue4
 t5 := underlying5
 a5 := isAgg5
 z5 := sizeOf5
 v5 := zeroValue5
 t9 := underlying9
 a9 := isAgg9
 z9 := sizeOf9
 v9 := zeroValue9
 t12 := underlying12
 a12 := isAgg12
 z12 := sizeOf12
 v12 := zeroValue12
 t46 := underlying178
 a46 := isAgg178
 z46 := sizeOf178
 v46 := zeroValue178
 t53 := underlying187
 a53 := isAgg187
 z53 := sizeOf187
 v53 := zeroValue187
 t119 := underlying206
 a119 := isAgg206
 z119 := sizeOf206
 t138 := underlying208
 a138 := isAgg208
 z138 := sizeOf208
 v138 := zeroValue208
 t139 := underlying209
 a139 := isAgg209
 z139 := sizeOf209
 v139 := zeroValue209
 g3 := by kernel_rfl
 g4 := by kernel_rfl }
open Go.RowKit Go.Lib in
theorem Tryz.utf8_ValidString (s : ByteArray) (w : World) (hs : s.size ≤ 9223372036854775807) (hT : Lib.Utf8Tabs 0 1 w) :
  Calls prog 92 #[.string s] w fun e w' => e = .returned (.bool (Lib.validD s.data.toList)) ∧ Below w.heap.size w w' := Any.utf8_ValidString Tryz.lays196 s w hs hT
def Tryz.sortPr_ren : Go.Shelf.Ren := ⟨fun | 6 => 70 | 15 => 111 | 14 => 114 | 28 => 158 | 29 => 159 | 20 => 160 | 21 => 161 | 22 => 162 | 23 => 163 | 24 => 164 | 25 => 165 | 26 => 166 | 27 => 167 | 46 => 192 | 47 => 188 | 48 => 189 | 49 => 193 | 50 => 194 | 57 => 208 | n => n, fun | 22 => 125 | 24 => 127 | 25 => 130 | 3 => 3 | 39 => 178 | 0 => 0 | 53 => 227 | 55 => 187 | 4 => 4 | 46 => 221 | 45 => 220 | 50 => 131 | 5 => 5 | 9 => 9 | 66 => 246 | 70 => 250 | 76 => 261 | 77 => 262 | n => n, fun | n => n⟩
theorem Tryz.sortPr : Go.Proofs.SlLaysF0.n6 prog Tryz.sortPr_ren := {
 mixed := by kernel_rfl
 f6 := ⟨Tryz.f70.name, by decide, func70.trans (congrArg some (by kernel_rfl))⟩
 f14 := ⟨Tryz.f114.name, by decide, func114.trans (congrArg some (by kernel_rfl))⟩
 f15 := func111.trans (congrArg some (by kernel_rfl))
 f20 := ⟨Tryz.f160.name, by decide, func160.trans (congrArg some (by kernel_rfl))⟩
 f21 := ⟨Tryz.f161.name, by decide, func161.trans (congrArg some (by kernel_rfl))⟩
 f22 := ⟨Tryz.f162.name, by decide, func162.trans (congrArg some (by kernel_rfl))⟩
 f23 := ⟨Tryz.f163.name, by decide, func163.trans (congrArg some (by kernel_rfl))⟩
 f24 := ⟨Tryz.f164.name, by decide, func164.trans (congrArg some (by kernel_rfl))⟩
 f25 := ⟨Tryz.f165.name, by decide, func165.trans (congrArg some (by kernel_rfl))⟩
 f26 := ⟨Tryz.f166.name, by decide, func166.trans (congrArg some (by kernel_rfl))⟩
 f27 := ⟨Tryz.f167.name, by decide, func167.trans (congrArg some (by kernel_rfl))⟩
 f28 := func158.trans (congrArg some (by kernel_rfl))
 f29 := func159.trans (congrArg some (by kernel_rfl))
 f46 := ⟨Tryz.f192.name, by decide, func192.trans (congrArg some (by kernel_rfl))⟩
 f47 := func188.trans (congrArg some (by kernel_rfl))
 f48 := func189.trans (congrArg some (by kernel_rfl))
 f49 := ⟨Tryz.f193.name, by decide, func193.trans (congrArg some (by kernel_rfl))⟩
 f50 := ⟨Tryz.f194.name, by decide, func194.trans (congrArg some (by kernel_rfl))⟩
 f57 := ⟨Tryz.f208.name, by decide, func208.trans (congrArg some (by kernel_rfl))⟩
 t0 := underlying0
 a0 := isAgg0
 z0 := sizeOf0
 v0 := zeroValue0
 t3 := underlying3
 a3 := isAgg3
 z3 := sizeOf3
 v3 := zeroValue3
 t4 := underlying4
 a4 := isAgg4
 z4 := sizeOf4
 v4 := zeroValue4
 t5 := underlying5
 a5 := isAgg5
 z5 := sizeOf5
 v5 := zeroValue5
 t9 := underlying9
 a9 := isAgg9
 z9 := sizeOf9
 v9 := zeroValue9
 t22 := underlying125
 a22 := isAgg125
 z22 := sizeOf125
 v22 := zeroValue125
 t25 := underlying130
 a25 := isAgg130
 z25 := sizeOf130
 v25 := zeroValue130
 t39 := underlying178
 a39 := isAgg178
 z39 := sizeOf178
 v39 := zeroValue178
 t45 := underlying220
 a45 := isAgg220
 z45 := sizeOf220
 v45 := zeroValue220
 t46 := underlying221
 a46 := isAgg221
 z46 := sizeOf221
 v46 := zeroValue221
 t50 := underlying131
 a50 := isAgg131
 z50 := sizeOf131
 v50 := zeroValue131
 t53 := underlying227
 a53 := isAgg227
 z53 := sizeOf227
 v53 := zeroValue227
 t55 := underlying187
 a55 := isAgg187
 z55 := sizeOf187
 v55 := zeroValue187
 t66 := underlying246
 a66 := isAgg246
 z66 := sizeOf246
 v66 := zeroValue246
 t70 := underlying250
 a70 := isAgg250
 z70 := sizeOf250
 v70 := zeroValue250
 t76 := underlying261
 a76 := isAgg261
 z76 := sizeOf261
 v76 := zeroValue261
 t77 := underlying262
 a77 := isAgg262
 z77 := sizeOf262
 v77 := zeroValue262 }
end Go.Proofs
namespace Go.Proofs.YtbkgklpihnfnjaaGreatDoor
open Go.Proofs.Tryz
open Go.Proofs
variable {E : World}
set_option maxRecDepth 20000
theorem reverse_own (l : List Int) (i : Nat) (T : TypeId) (hl : l.length ≤ 200000) : ACall prog E 112 [.own i l.length] [(i, .grow 1 T (cI l))] fun r O => r = .tup [] ∧ O = [(i, .grow 1 T (cI l.reverse))] :=
 ACall.turned (g := List.reverse) (B := 200001) func112 rfl (by decide) (fun l => List.length_reverse) (fun blk cap zs w hH _ hz => (Tryz.slices_Reverse_int blk 0 cap zs w hH (by omega)).mono fun e w' ⟨h1, n, h2⟩ => ⟨h1, n, #[], by rw [h2, Go.Sort.grow_empty]⟩)
  (fun cap w => Tryz.slices_Reverse_int_empty none cap w) rfl (by omega)
theorem sort_own (l : List Int) (i : Nat) (T : TypeId) (hl : l.length ≤ 200000) : ACall prog E 66 [.own i l.length] [(i, .grow 1 T (cI l))] fun r O => r = .tup [] ∧ O = [(i, .grow 1 T (cI (sortI l)))] :=
 ACall.turned (g := sortI) (B := 200001) func66 rfl (by decide) (fun l => (sortI_perm l).length_eq) (fun blk cap zs w hH hb hz => Tryz.slices_Sort_int blk 0 cap zs w hH hb (by omega))
  (fun cap w => Tryz.slices_Sort_int_none none cap w) rfl (by omega)
end Go.Proofs.YtbkgklpihnfnjaaGreatDoor
