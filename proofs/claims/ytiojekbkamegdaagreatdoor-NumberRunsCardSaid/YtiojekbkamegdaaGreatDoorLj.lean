/- Go's library on slices of numbers: reversed, sorted, repeated. No conditions but bounds. -/
import Derived.Test.YtiojekbkamegdaaGreatDoorLc
import Derived.Test.YtiojekbkamegdaaGreatDoorLh
import Derived.Test.YtiojekbkamegdaaGreatDoorLg
import Derived.Laws.CopyRow
set_option linter.unusedVariables false
set_option linter.unusedSimpArgs false
set_option linter.unusedSectionVars false
namespace Go.Proofs.YtiojekbkamegdaaGreatDoor
open Go.Proofs.Tryz
open Go.Proofs
variable {E : World}
set_option maxRecDepth 20000
theorem indexFuncJ_spec {p : Int → Bool} {fn : FuncId} {c : List AV} (xs : List Int) (hl : xs.length ≤ 281474976710656) (hp : ∀ x ∈ xs, AFun prog E fn ([.int .i64 x] ++ c) (.bool (p x))) :
  AFun prog E 187 [.fro 1 (xs.map encI), .fn fn [] c] (.int .i64 (firstI p xs 0)) := by
 refine zp func187 Z (by decide) Z<|zSr<|zVzAi Z<|z2<|zc<|zSr<|zVzMf Z<|zVGvlenM j6 Z<|zVzMi Z<|z2<|zi<|y7 (γ := Nat) [0, 1, 7] (fun k => [(8, .int .i64 k)]) (fun k => []) (fun k => k ≤ xs.length ∧ (xs.take k).all (fun x => !p x)) (fun k => xs.length - k) 0 zR1 zLe (⟨qt _, Z⟩) ?_
 rintro k ⟨hk, hall⟩
 refine zSr<|zVGvlss Z Z<|z2<|zc<|zo Z (fun ck=>?_) (fun ck=>?_)
 ·have hk2 : k < xs.length := by omega
  refine zf<|zc<|zi<|zSr<|zVzMi Z<|zVzAi Z<|z2<|zSr<|z8 (yw (v := .fn _ _ _) Z)<|zVzMf Z<|zVzMi Z<|z8 (q7 j6 j7 Z Z Z (qq (by omega)))<|zVzLi j9 Z<|AOps.callVP Z (hp _ (qu hk2)) Z<|z2<|zu Z (fun cp=>?_) (fun cp=>?_)
  ·refine zSr<|zVzMi Z<|zVzAi Z<|z2<|zj<|zk (x := .int _ _) Z ?_
   rw [firstI_drop p xs k hk hall, List.drop_eq_getElem_cons hk2, firstI, if_pos cp]
  ·refine zf<|zRg<|zVzAd Z Z<|zVzMi Z<|z2 ?_
   exact ⟨k + 1, zR3, zR1, zLe, ⟨hk2, by rw [qr hk2, List.all_append, hall]; simp [cp]⟩, by omega⟩
 ·have hkn : k = xs.length := by omega
  refine y6<|zSr<|zVzAi Z<|z2<|zj<|zk (x := .int _ _) Z ?_
  rw [firstI_drop p xs k hk hall, hkn, List.drop_length, firstI]
theorem containsFuncJ_spec {p : Int → Bool} {fn : FuncId} {c : List AV} (xs : List Int) (hl : xs.length ≤ 281474976710656) (hp : ∀ x ∈ xs, AFun prog E fn ([.int .i64 x] ++ c) (.bool (p x))) :
  AFun prog E 148 [.fro 1 (xs.map encI), .fn fn [] c] (.bool (xs.any p)) := by
 refine zp func148 Z (by decide) Z<|zSr<|zVzAb Z<|z2<|zSr<|zVzMf Z<|z8 (yw (v := .fn _ _ _) Z)<|zg (indexFuncJ_spec xs hl hp) Z<|z8 (qd Z Z)<|zVzAb Z<|z2<|zj<|zk (x := .bool _) Z ?_
 rw [firstI_ge]
def kindV (f : PFunc) (v : Int) : Int := ((f.vars[v.toNat]?).map (·.ty)).getD 0
theorem hasV_get {f : PFunc} {v : Int} (h : hasV f v = true) : ∃ x, f.vars[v.toNat]? = some x ∧ v = (v.toNat : Int) ∧ kindV f v = x.ty := by
 unfold hasV at h
 simp only [w6, w9] at h
 have hl : v.toNat < f.vars.length := by omega
 refine ⟨f.vars[v.toNat], qq hl, by omega, ?_⟩
 unfold kindV; rw [qq hl]; rfl
theorem kind_spec (f : PFunc) (v : Int) (hv : hasV f v = true) : AFun prog E 222 [.agg (encF f), .int .i64 v] (.int .i64 (kindV f v)) := by
 obtain ⟨x, hx, hv2, hk⟩ := hasV_get hv
 rw [hk]
 refine zp func222 Z (by decide) Z<|zSr<|yc (cs := _) Z Z Z<|zVzAi Z<|z2<|zSr<|zVzFF jh Z Ya Z Z<|zVzLf Yk Z<|zVzMi Z<|z8 (zIM v.toNat Z4 Ye Z Z hv2 hx)<|zVzFF Zl Z X5 Z Z<|zVzLi isAgg77 Z<|zVzAi Z<|z2<|zj<|zk (x := .int _ _) Z ?_
 rfl
theorem any_spec (op : Int) : AFun prog E 223 [.int .i64 op] (.bool (decide (op = 1))) := by
 refine zp func223 Z (by decide) Z<|zSr<|zVzAb Z<|z2<|zSr<|zVzMi Z<|zVGveqlI Z Z<|zVzAb Z<|z2<|zj<|zk (x := .bool _) Z ?_
 simp_all
theorem headD_at : ∀ {l : List Int} (h : 0 < l.length), l.headD 0 = l[0]
 | [], h => absurd h (Nat.lt_irrefl 0)
 | _ :: _, _ => rfl
def instT (f : PFunc) (x : PInst) : Bool := if x.op = 1 then decide (kindV f x.dst = kindV f (x.args.headD 0)) else decide (x.args.map (kindV f) = takesL x.op) && (!makesB x.op || decide (kindV f x.dst = makesT x.op))
theorem map_take_succ {f : PFunc} {xs ts : List Int} {k : Nat} (h1 : k < xs.length) (h2 : k < ts.length) (h : (xs.take k).map (kindV f) = ts.take k) (hk : kindV f xs[k] = ts[k]) : (xs.take (k + 1)).map (kindV f) = ts.take (k + 1) := by
 rw [qr h1, qr h2, w2, h, List.map_cons, List.map_nil, hk]
theorem map_ne {f : PFunc} {xs ts : List Int} {k : Nat} (h1 : k < xs.length) (h2 : k < ts.length) (hk : ¬ kindV f xs[k] = ts[k]) : ¬ xs.map (kindV f) = ts := by
 intro e
 apply hk
 subst e
 rw [List.getElem_map]
theorem yinst_spec (f : PFunc) (x : PInst) (ha : x.args.all (hasV f) = true) (hl : x.args.length = (takesL x.op).length) (hd : makesB x.op = true → hasV f x.dst = true) :
  AFun prog E 182 [.agg (encF f), .agg (encInst x)] (.bool (instT f x)) := by
 have hlen : (takesL x.op).length ≤ 3 := by
  rcases kRow_mem x.op with h | h
  ·unfold takesL; rw [h]; decide
  ·have : ∀ r ∈ kindT, r.2.1.data.toList.length ≤ 3 := by decide
   have := this _ h
   unfold takesL; simpa using this
 refine zp func182 Z (by decide) Z<|zSr<|yc (cs := _) Z Z Z<|yc (cs := _) Z Z Z<|zVzAb Z<|z2<|zc<|zSr<|zVzFF ji Z Zt Z Z<|zVzLi Y1 Z<|zg (any_spec _) Z<|z2<|zo Z (fun c1=>?_) (fun c1=>?_)
 ·have e1 : x.op = 1 := by simpa using c1
  have hlz : 0 < x.args.length := by rw [hl, e1]; decide
  have hv0 : hasV f x.args[0] = true := List.all_eq_true.1 ha _ (qu hlz)
  have hvd : hasV f x.dst = true := hd (by rw [e1]; decide)
  refine zc<|zr (fun j => false) (by kernel_rfl) Z (zm (.rest _))<|zTk 0 Z (yl jq jj Z Z)<|zTk 1 Z (zFF ji Z j7 Z Z)<|zTk 2 Z (zLi j9 Z)<|zTk 4 Z (yl jq jj Z Z)<|zTk 5 Z (zFF ji Z jd Z Z)<|zTk 6 Z (zLf jk Z)<|zTk 7 Z (zIM 0 j6 j7 Z Z Z (qq hlz))<|zTk 8 Z (zLi j9 Z)<|zOn 3 Z<|zg (kind_spec _ _ (by assumption)) Z<|z2<|zOn 9 Z<|zg (kind_spec _ _ (by assumption)) Z<|z2<|zTk 10 Z (Gv.eqlI Z Z)<|zTk 11 Z (zAb Z)<|zDn<|zj<|zk (x := .bool _) Z ?_
  exact jb (by unfold instT; rw [if_pos e1, headD_at hlz])
 ·have e1 : ¬ x.op = 1 := by simpa using c1
  refine zf<|zc<|zSr<|zVzFF ji Z Zt Z Z<|zVzLi Y1 Z<|zg (takes_spec _) Z<|zVGvlenM underlying286 Z<|zVzMi Z<|z2<|zi<|y7 (γ := Nat) [2, 3, 25, 26] (fun k => [(27, .int .i64 k)]) (fun k => []) (fun k => k ≤ (takesL x.op).length ∧ (x.args.take k).map (kindV f) = (takesL x.op).take k) (fun k => (takesL x.op).length - k) 0 zR1 zLe (⟨qt _, Z⟩) ?_
  rintro k ⟨hk, hall⟩
  refine zSr<|zVGvlss Z Z<|z2<|zc<|zo Z (fun ck=>?_) (fun ck=>?_)
  ·have hk2 : k < (takesL x.op).length := by simp at ck; omega
   have hk3 : k < x.args.length := by omega
   have hvk : hasV f x.args[k] = true := List.all_eq_true.1 ha _ (qu hk3)
   refine zf<|zc<|zi<|zSr<|zVzMi Z<|z8 (zIM k underlying286 X5 Z Z Z (qq hk2))<|zVzLi isAgg77 Z<|zVzAi Z<|zVzAi Z<|z2<|zc<|zr (fun j => false) (by kernel_rfl) Z (zm (.rest _))<|zTk 0 Z (yl jq jj Z Z)<|zTk 1 Z (zFF ji Z jd Z Z)<|zTk 2 Z (zLf jk Z)<|zTk 3 Z (zMi Z)<|zTk 4 Z (zIM k j6 j7 Z Z Z (qq hk3))<|zTk 5 Z (zLi j9 Z)<|zTk 7 Z (zMi Z)<|zOn 6 Z<|zg (kind_spec _ _ (by assumption)) Z<|z2<|zTk 8 Z (Gv.neqI Z Z)<|zDn<|zu Z (fun cn=>?_) (fun cn=>?_)
   ·refine zSr<|zVzAb Z<|z2<|zj<|zk (x := .bool _) Z ?_
    exact jb (by unfold instT; rw [if_neg e1, w5 (map_ne hk3 hk2 (by simpa using cn))]; rfl)
   ·refine zf<|zRg<|zVzAd Z Z<|zVzMi Z<|z2 ?_
    exact ⟨k + 1, zR4, zR1, zLe, ⟨hk2, map_take_succ hk3 hk2 hall (by simpa using cn)⟩, by omega⟩
  ·have hkn : k = (takesL x.op).length := by simp at ck; omega
   subst hkn
   rw [qv, ← hl, qv] at hall
   refine y6<|zSr<|zVzFF ji Z Zt Z Z<|zVzLi Y1 Z<|zg (makes_spec _) Z<|z8 (zMu Z)<|z8 (zXi Z Z)<|z8 (zXb Z Z)<|zVzAi Z<|zVzAb Z<|z2<|zSr<|zVzMb Z<|zVGvnot Z<|zVzMb Z<|zq (s := 50) Z (fun c1=>?_) (fun c1=>?_)
   ·refine z6 Z Z c1<|z6 Z Z c1<|z6 Z Z c1<|z6 Z Z c1<|z6 Z Z c1<|z6 Z Z c1<|zVzPt Z c1 Z<|zVzAb Z<|z2<|zj<|zk (x := .bool _) Z ?_
    exact jb (by unfold instT; rw [if_neg e1, w4 hall]; simp_all)
   ·refine z7 Z Z c1<|zVGvloadWF jq jj Z Z<|z7 Z Z c1<|zVzFF ji Z j7 Z Z<|z7 Z Z c1<|zVzLi j9 Z<|z7 Z Z c1<|zg (kind_spec f x.dst (hd (by simp_all))) Z<|z7 Z Z c1<|zVzMi Z<|z7 Z Z c1<|zVGveqlI Z Z<|zVzPf Z c1 Z<|zVzAb Z<|z2<|zj<|zk (x := .bool _) Z ?_
    exact jb (by unfold instT; rw [if_neg e1, w4 hall]; simp_all)
def phiT (f : PFunc) (p : PPhi) : Bool := !(p.args.any fun v => !decide (kindV f v = kindV f p.dst))
theorem yphi1_spec (f : PFunc) (p : PPhi) (v : Int) (hv : hasV f v = true) (hd : hasV f p.dst = true) : AFun prog E 221 ([.int .i64 v] ++ [.pf (encF f), .pf (encPhi p)]) (.bool (!decide (kindV f v = kindV f p.dst))) := by
 refine zp func221 Z (by decide) Z<|zSr<|zVzAb Z<|z2<|zc<|zr (fun j => false) (by kernel_rfl) Z (zm (.rest _))<|zTk 0 Z (yl jq jj Z Z)<|zTk 1 Z (zMi Z)<|zTk 3 Z (yl jq jj Z Z)<|zTk 4 Z (zFF js Z j7 Z Z)<|zTk 5 Z (zLi j9 Z)<|zOn 2 Z<|zg (kind_spec _ _ (by assumption)) Z<|z2<|zOn 6 Z<|zg (kind_spec _ _ (by assumption)) Z<|z2<|zTk 7 Z (Gv.neqI Z Z)<|zTk 8 Z (zAb Z)<|zDn<|zj<|zk (x := .bool _) Z ?_
 simp_all
theorem yphi_spec (f : PFunc) (p : PPhi) (hp : okPhi p) (ha : p.args.all (hasV f) = true) (hd : hasV f p.dst = true) : AFun prog E 181 [.agg (encF f), .agg (encPhi p)] (.bool (phiT f p)) := by
 have hl1 := hp.1.lt
 refine zp func181 Z (by decide) Z<|zSr<|yc (cs := _) Z Z Z<|yc (cs := _) Z Z Z<|zVzAb Z<|z2<|zSr<|zVzFF js Z jd Z Z<|zVzLf jk Z<|z8 (Gv.func Z Z)<|zg (containsFuncJ_spec p.args (by omega) (fun v hv => yphi1_spec f p v (List.all_eq_true.1 ha v hv) hd)) Z<|zVGvnot Z<|zVzAb Z<|z2<|zj<|zk (x := .bool _) Z ?_
 rfl
def termT (f : PFunc) (t : PTerm) : Bool := if t.kind = 0 then !decide (t.to0 = 0) else if t.kind = 1 then decide (kindV f t.var = 1) && !decide (t.to0 = 0) && !decide (t.to1 = 0) else decide (kindV f t.var = 0)
theorem yterm_spec (f : PFunc) (t : PTerm) (h : ¬ t.kind = 0 → hasV f t.var = true) : AFun prog E 183 [.agg (encF f), .agg (encTerm t)] (.bool (termT f t)) := by
 refine zp func183 Z (by decide) Z<|zSr<|yc (cs := _) Z Z Z<|yc (cs := _) Z Z Z<|zVzAb Z<|z2<|zc<|zSr<|zVzFF jf Z Zu Z Z<|zVzLi Y3 Z<|z2<|zi<|zSr<|zVGveqlI Z Z<|zVzAb Z<|z2<|zu Z (fun c2=>?_) (fun c2=>?_)
 ·refine zSr<|zVzFF jf Z Z6 Z Z<|z8 (yu (j := 0) jy j7 Z Z Z (by decide) Z)<|zVzLi j9 Z<|zVGvneqI Z Z<|zVzAb Z<|z2<|zj<|zk (x := .bool _) Z ?_
  exact jb (by unfold termT; simp_all)
 ·refine zSr<|zVGveqlI Z Z<|zVzAb Z<|z2<|zu Z (fun c3=>?_) (fun c3=>?_)
  ·refine zSr<|zVGvloadWF jq jj Z Z<|zVzFF jf Z j7 Z Z<|zVzLi j9 Z<|zg (kind_spec f t.var (h (by simp_all))) Z<|zVGveqlI Z Z<|zVzMb Z<|zq (s := 20) Z (fun c4=>?_) (fun c4=>?_)
   ·refine z7 Z Z c4<|zVzFF jf Z Z6 Z Z<|z7 Z Z c4<|z8 (yu (j := 0) jy j7 Z Z Z (by decide) Z)<|z7 Z Z c4<|zVzLi j9 Z<|z7 Z Z c4<|zVGvneqI Z Z<|zVzPt Z c4 Z<|zVzMb Z<|zq (s := 26) Z (fun c5=>?_) (fun c5=>?_)
    ·refine z7 Z Z c5<|zVzFF jf Z Z6 Z Z<|z7 Z Z c5<|z8 (yu (j := 1) jy j7 Z Z Z (by decide) Z)<|z7 Z Z c5<|zVzLi j9 Z<|z7 Z Z c5<|zVGvneqI Z Z<|zVzPt Z c5 Z<|zVzAb Z<|z2<|zj<|zk (x := .bool _) Z ?_
     exact jb (by unfold termT; simp_all)
    ·refine z6 Z Z c5<|z6 Z Z c5<|z6 Z Z c5<|z6 Z Z c5<|zVzPf Z c5 Z<|zVzAb Z<|z2<|zj<|zk (x := .bool _) Z ?_
     exact jb (by unfold termT; simp_all)
   ·refine z6 Z Z c4<|z6 Z Z c4<|z6 Z Z c4<|z6 Z Z c4<|zVzPf Z c4 Z<|zVzMb Z<|z6 Z Z Z<|z6 Z Z Z<|z6 Z Z Z<|z6 Z Z Z<|zVzPf Z Z Z<|zVzAb Z<|z2<|zj<|zk (x := .bool _) Z ?_
    exact jb (by unfold termT; simp_all)
  ·refine zf<|zSr<|zVGvloadWF jq jj Z Z<|zVzFF jf Z j7 Z Z<|zVzLi j9 Z<|zg (kind_spec f t.var (h (by simp_all))) Z<|zVGveqlI Z Z<|zVzAb Z<|z2<|zj<|zk (x := .bool _) Z ?_
   exact jb (by unfold termT; simp_all)
end Go.Proofs.YtiojekbkamegdaaGreatDoor
namespace Go.Proofs.YtiojekbkamegdaaGreatDoor
open Go.Proofs.Tryz
open Go.Proofs
theorem ps23_1 : PlacesS prog 23 3 1 1 [.int .i64 0] := ⟨_, j6, j7, Yo, by decide, by decide, by kernel_rfl⟩
theorem ps23_2 : PlacesS prog 23 3 2 1 [.int .i64 0, .int .i64 0] := ⟨_, j6, j7, Yo, by decide, by decide, by kernel_rfl⟩
variable {E : World}
set_option maxRecDepth 20000
theorem ends_0 {t : PTerm} (h : t.kind = 0) : endsL t = [t.to0] := by unfold endsL; rw [if_pos h]
theorem ends_1 {t : PTerm} (h : t.kind = 1) (e : t.to0 = t.to1) : endsL t = [t.to0] := by unfold endsL; rw [if_neg (by omega), if_pos h, if_pos e]
theorem ends_2 {t : PTerm} (h : t.kind = 1) (e : ¬ t.to0 = t.to1) : endsL t = [t.to0, t.to1] := by unfold endsL; rw [if_neg (by omega), if_pos h, if_neg e]
theorem ends_3 {t : PTerm} (h0 : ¬ t.kind = 0) (h : ¬ t.kind = 1) : endsL t = [] := by unfold endsL; rw [if_neg h0, if_neg h]
theorem ends_spec (t : PTerm) : AFun prog E 114 [.agg (encTerm t)] (.fro 1 ((endsL t).map encI)) := by
 refine zp func114 Z (by decide) Z<|zSr<|yc (cs := _) Z Z Z<|z8 (zAr Z)<|z2<|zc<|zi<|zc<|zSr<|zVzFF jf Z Zu Z Z<|zVzLi Y3 Z<|zVGveqlI Z Z<|zVzAb Z<|z2<|zo Z (fun c0=>?_) (fun c0=>?_)
 ·refine zf<|yq Z (by simpa using c0)<|zSr<|zVzFF jf Z Z6 Z Z<|z8 (yu (j := 0) jy j7 Z Z Z (by decide) Z)<|zVzLi j9 Z<|zx (rows := [[_]]) ps23_1 Z Z Z Z Z<|z8 (zAf Z)<|z2<|zj<|zk (x := .fro _ _) Z ?_
  rw [ends_0 c0]; rfl
 ·refine zRg<|zVzFF jf Z Zu Z Z<|zVzLi Y3 Z<|zVGveqlI Z Z<|zVzMb Z<|zq (s := 10) Z (fun c1=>?_) (fun c1=>?_)
  ·refine z7 Z Z c1<|zVzFF jf Z Z6 Z Z<|z7 Z Z c1<|z8 (yu (j := 0) jy j7 Z Z Z (by decide) Z)<|z7 Z Z c1<|zVzLi j9 Z<|z7 Z Z c1<|zVzFF jf Z Z6 Z Z<|z7 Z Z c1<|z8 (yu (j := 1) jy j7 Z Z Z (by decide) Z)<|z7 Z Z c1<|zVzLi j9 Z<|z7 Z Z c1<|zVGveqlI Z Z<|zVzPt Z c1 Z<|zVzAb Z<|z2<|zu Z (fun c2=>?_) (fun c2=>?_)
   ·refine zSr<|zVzFF jf Z Z6 Z Z<|z8 (yu (j := 0) jy j7 Z Z Z (by decide) Z)<|zVzLi j9 Z<|zx (rows := [[_]]) ps23_1 Z Z Z Z Z<|z8 (zAf Z)<|z2<|zj<|zk (x := .fro _ _) Z ?_
    rw [ends_1 (by simpa using c1) (by simpa using c2)]; rfl
   ·refine zSr<|zVzFF jf Z Zu Z Z<|zVzLi Y3 Z<|zVGveqlI Z Z<|zVzAb Z<|z2<|yq Z (by simpa using c1)<|zSr<|zVzFF jf Z Z6 Z Z<|z8 (yu (j := 0) jy j7 Z Z Z (by decide) Z)<|zVzLi j9 Z<|zVzFF jf Z Z6 Z Z<|z8 (yu (j := 1) jy j7 Z Z Z (by decide) Z)<|zVzLi j9 Z<|zx (rows := [[_], [_]]) ps23_2 Z Z Z Z Z<|z8 (zAf Z)<|z2<|zj<|zk (x := .fro _ _) Z ?_
    rw [ends_2 (by simpa using c1) (by simpa using c2)]; rfl
  ·refine z6 Z Z c1<|z6 Z Z c1<|z6 Z Z c1<|z6 Z Z c1<|z6 Z Z c1<|z6 Z Z c1<|z6 Z Z c1<|zVzPf Z c1 Z<|zVzAb Z<|z2<|yj Z Z<|zSr<|zVzFF jf Z Zu Z Z<|zVzLi Y3 Z<|zVGveqlI Z Z<|zVzAb Z<|z2<|yj Z (by simpa using c1)<|zf<|zSr<|z8 (zAr Z)<|z2<|zj ?_
   repeat (first | refine aseqQ_ret ?_ | refine ablockQ_ret ?_)
   refine yx (GStep.slot (t := 2) Z (impNil 1))<|zk (x := .fro _ _) Z ?_
   rw [ends_3 (by simpa using c0) (by simpa using c1)]; rfl
def push1 (rows : List (List Int)) (c x : Int) : List (List Int) := rows.set c.toNat ((rows[c.toNat]?).getD [] ++ [x])
def pushes (rows : List (List Int)) (cs : List Int) (x : Int) : List (List Int) := cs.foldl (fun r c => push1 r c x) rows
theorem pushes_len (cs : List Int) (x : Int) : ∀ rows, (pushes rows cs x).length = rows.length := by
 induction cs with
 | nil => intro rows; rfl
 | cons c cs ih => intro rows; show (pushes (push1 rows c x) cs x).length = _; rw [ih]; unfold push1; simp
theorem pushes_snoc (rows : List (List Int)) (cs : List Int) (c x : Int) : pushes rows (cs ++ [c]) x = push1 (pushes rows cs x) c x := by unfold pushes; rw [List.foldl_append]; rfl
theorem push1_get {rows : List (List Int)} {c x : Int} (h0 : 0 ≤ c) (b : Nat) : (push1 rows c x)[b]? = (rows[b]?).map (· ++ if c = (b : Int) then [x] else []) := by
 unfold push1
 rw [List.getElem?_set]
 by_cases e : c.toNat = b
 ·have : c = (b : Int) := by omega
  rw [if_pos e, if_pos this, e]
  by_cases hb : b < rows.length
  ·rw [if_pos hb, qq hb]; rfl
  ·rw [if_neg hb, List.getElem?_eq_none (by omega)]; rfl
 ·have : ¬ c = (b : Int) := by omega
  rw [if_neg e, if_neg this]; simp
theorem pushes_get (x : Int) (b : Nat) : ∀ (cs : List Int) (rows : List (List Int)), (∀ c ∈ cs, 0 ≤ c) → (pushes rows cs x)[b]? = (rows[b]?).map (· ++ (cs.filter fun c => decide (c = (b : Int))).map fun _ => x)
 | [], rows, _ => by simp [pushes]
 | c :: cs, rows, h => by
  show (pushes (push1 rows c x) cs x)[b]? = _
  rw [pushes_get x b cs _ (fun c hc => h c (List.mem_cons_of_mem _ hc)), push1_get (h c (List.mem_cons_self ..))]
  cases rows[b]? with
  | none => rfl
  | some r =>
   by_cases e : c = (b : Int)
   ·simp [e]
   ·simp [e]
def predsR (f : PFunc) (k : Nat) : List (List Int) := (List.range f.blocks.length).map fun (b : Nat) => predsT (EndsOf f) k (b : Int)
theorem predsR_len (f : PFunc) (k : Nat) : (predsR f k).length = f.blocks.length := by unfold predsR; simp
theorem predsR_zero (f : PFunc) : List.replicate f.blocks.length [] = predsR f 0 := by
 apply List.ext_getElem
 ·rw [predsR_len]; simp
 ·intro i h1 h2
  unfold predsR predsT intsTo
  simp
theorem predsT_succ (E : Int → List Int) (k : Nat) (b : Int) : predsT E (k + 1) b = predsT E k b ++ ((E k).filter fun c => decide (c = b)).map fun _ => (k : Int) := by
 unfold predsT; rw [intsTo_succ, List.flatMap_append]; simp
theorem predsR_succ {f : PFunc} {k : Nat} (h0 : ∀ c ∈ EndsOf f k, 0 ≤ c) : pushes (predsR f k) (EndsOf f k) k = predsR f (k + 1) := by
 apply List.ext_getElem?
 intro b
 rw [pushes_get _ _ _ _ h0]
 by_cases hb : b < f.blocks.length
 ·unfold predsR
  rw [qy, qy, List.getElem?_range hb]
  simp only [Option.map_some]
  rw [predsT_succ]
 ·rw [List.getElem?_eq_none (by rw [predsR_len]; omega), List.getElem?_eq_none (by rw [predsR_len]; omega)]; rfl
theorem push_row {rows : List (List Int)} {c x : Int} (h : c.toNat < rows.length) : rows.set c.toNat (rows[c.toNat] ++ [x]) = push1 rows c x := by
 unfold push1; rw [qq h]; rfl
theorem predsT_len (f : PFunc) (b : Int) : ∀ k, (predsT (EndsOf f) k b).length ≤ 2 * k
 | 0 => by simp [predsT, intsTo]
 | k + 1 => by
  have h1 := predsT_len f b k
  have h2 := EndsOf_len f k
  have h3 := List.length_filter_le (fun c => decide (c = b)) (EndsOf f k)
  rw [predsT_succ, qw, qx]
  omega
theorem row_len {f : PFunc} {k b : Nat} {cs : List Int} {x : Int} (h0 : ∀ c ∈ cs, 0 ≤ c) (hb : b < (pushes (predsR f k) cs x).length) : (pushes (predsR f k) cs x)[b].length ≤ 2 * k + cs.length := by
 have hb2 : b < f.blocks.length := by rwa [pushes_len, predsR_len] at hb
 have h := pushes_get x b cs (predsR f k) h0
 have hr : (predsR f k)[b]? = some (predsT (EndsOf f) k (b : Int)) := by unfold predsR; rw [qy, List.getElem?_range hb2]; rfl
 rw [qq hb, hr] at h
 have h : (pushes (predsR f k) cs x)[b] = predsT (EndsOf f) k (b : Int) ++ (cs.filter fun c => decide (c = (b : Int))).map fun _ => x := by simpa using h
 have h2 := predsT_len f b k
 have h3 := List.length_filter_le (fun c => decide (c = (b : Int))) cs
 rw [h, qw, qx]
 omega
theorem preds_spec (f : PFunc) (hE : EndsOk f) (hn : f.blocks.length ≤ 100000) : AFun prog E 151 [.agg (encF f)] (froN eI (predsR f f.blocks.length)) := by
 refine zp func151 Z (by decide) Z<|zSr<|yc (cs := _) Z Z Z<|z8 (zAr Z)<|z2<|zSr<|zVzFF jh Z Z1 Z Z<|zVzLf Z8 Z<|zVGvlenM jl Z<|y9 (m := f.blocks.length) jg Z7 Z Z Z Z Z (by simp) (by simp) (by show (24 : Int) * _ ≤ _; omega) (by omega) eI 3<|fun b11 => z8 (qf (v := nref _ _) Z)<|z2<|zc<|zSr<|zVzFF jh Z Z1 Z Z<|zVzLf Z8 Z<|zVGvlenM jl Z<|zVzMi Z<|z2<|zi<|y7 (γ := Nat) [3, 13, 14] (fun k => [(15, .int .i64 k)]) (fun k => [(0, nestO eI 23 3 b11 (predsR f k))]) (fun k => k ≤ f.blocks.length) (fun k => f.blocks.length - k) 0 zR1 ⟨_, (.refl _), by rw [predsR_zero]⟩ (qt _) ?_
 rintro k hk
 refine zSr<|zVGvlss Z Z<|z2<|zc<|zo Z (fun ck=>?_) (fun ck=>?_)
 ·have hk2 : k < f.blocks.length := by simp at ck; omega
  have hEk : EndsOf f k = endsL f.blocks[k].term := EndsOf_nat hk2
  have hlen := endsL_len f.blocks[k].term
  have hrng := hE.rng _ (qu hk2)
  refine zf<|zc<|zi<|zSr<|zVzMi Z<|z8 (zIM k jl jw Z Z Z (qq hk2))<|zVGvloadWF Yc jw Z Z<|zt (cs := [.str ⟨#[]⟩, .raw (.slice none 0 0), .raw (.slice none 0 0), .int .i64 0, .int .i64 0, .int .i64 0, .int .i64 0]) Zd Z Z<|fun i5 => zVzAi Z<|zn jw Z Z Z Z Z Z .head Z<|z2<|zSr<|z8 (ze je Z Ze (by decide) Z Z)<|z8 (Gv.loadAC (l := [_, _, _, _]) isAgg56 Ze Z ⟨_, .head⟩ Z Z)<|zg (ends_spec _) Z<|zVGvlenM j6 Z<|zVzMi Z<|z2<|zi<|y7 (γ := Nat) [3, 4, 13, 14, 15, 22, 23] (fun j => [(24, .int .i64 j)]) (fun j => [(0, nestO eI 23 3 b11 (pushes (predsR f k) ((endsL f.blocks[k].term).take j) k))]) (fun j => j ≤ (endsL f.blocks[k].term).length) (fun j => (endsL f.blocks[k].term).length - j) 0 zR1 ⟨_, (.drop (.refl _)), Z⟩ (qt _) ?_
  rintro j hj
  refine zSr<|zVGvlss Z Z<|z2<|zc<|zo Z (fun cj=>?_) (fun cj=>?_)
  ·have hj2 : j < (endsL f.blocks[k].term).length := by simp at cj; omega
   obtain ⟨c, hc⟩ : ∃ c, (endsL f.blocks[k].term)[j] = c := ⟨_, rfl⟩
   have hr := hrng c (hc ▸ qu hj2)
   obtain ⟨rows, hrows⟩ : ∃ rows, pushes (predsR f k) ((endsL f.blocks[k].term).take j) k = rows := ⟨_, rfl⟩
   have hrl : rows.length = f.blocks.length := by rw [← hrows, pushes_len, predsR_len]
   have hcn : c.toNat < rows.length := by omega
   have hrow : rows[c.toNat].length ≤ 200002 := by
    have := row_len (f := f) (k := k) (b := c.toNat) (cs := (endsL f.blocks[k].term).take j) (x := k) (fun c hc => (hrng c (List.mem_of_mem_take hc)).1) (by rw [hrows]; exact hcn)
    simp only [hrows, w3] at this
    omega
   rw [hrows]
   refine zf<|zc<|zi<|zSr<|z8 (zIM j j6 j7 Z Z Z (by rw [qq hj2, hc])) ?_
   refine zVzLi j9 Z<|zVzAi Z<|z2<|zRg<|z8 (yw (v := nref _ _) Z)<|zVzMi Z<|z8 (yw (v := nref _ _) Z)<|zVzMi Z<|z8 (qj (j := c.toNat) jg jd Z Z (by omega) (by omega))<|qa (j := c.toNat) (r := rows[c.toNat]) jk Z (qq hcn) (fun _ => .head)<|fun i33 => zVzMi Z<|zx (rows := [[_]]) ps23_1 Z Z Z Z Z<|ym (k := 1) j6 Zr Z Z Z Z Z (fun _ => .head) (by rw [eI.av_len]; rfl) (by decide) Z (by show (_ + 1) * 8 ≤ _; omega) (by show _ + 1 ≤ _; omega)<|fun i36 => z8 (qj (j := c.toNat) jg jd Z Z (by omega) (by omega))<|ql (j := c.toNat) (r := rows[c.toNat] ++ [(k : Int)]) jd Z Z (by omega) .head .head Z (eI.av_push _ _) (by simp)<|z2<|zRg<|zVzAd Z Z<|zVzMi Z<|z2 ?_
   exact ⟨j + 1, zR7, zR1, ⟨_, (.refl _), by rw [qr hj2, pushes_snoc, hrows, hc, push_row hcn]⟩, hj2, by omega⟩
  ·have hjn : j = (endsL f.blocks[k].term).length := by simp at cj; omega
   refine y6<|zRg<|zVzAd Z Z<|zVzMi Z<|z2 ?_
   exact ⟨k + 1, zR3, zR1, ⟨_, (.refl _), by rw [hjn, qv, ← hEk, predsR_succ (fun c hc => (hrng c (hEk ▸ hc)).1)]⟩, hk2, by omega⟩
 ·have hkn : k = f.blocks.length := by simp at ck; omega
  subst hkn
  refine zw (GStep.nestKnow (s := 3) Z .head (predsR_len f _))<|y6<|zSr<|zVzMf Z<|z8 (zAf Z)<|z2<|zj<|zk (x := .fro _ _) Z ?_
  rfl
end Go.Proofs.YtiojekbkamegdaaGreatDoor
namespace Go.Proofs.YtiojekbkamegdaaGreatDoor
open Go.Proofs.Tryz
open Go.Proofs
theorem pl259 : Places prog 259 #[(0, 1), (1, 1)] [.int .i64 0, .int .i64 0] := ⟨_, _, Yl, zeroValue259, fun w => by kernel_rfl, rfl⟩
theorem ps260_1 : PlacesS prog 260 259 1 2 [.int .i64 0, .int .i64 0] := ⟨_, Yh, sizeOf259, zeroValue259, by decide, by decide, by kernel_rfl⟩
variable {E : World}
set_option maxRecDepth 20000
def stC (r : List (Int × Nat)) : List AV := (r.reverse.map fun q => [AV.int .i64 q.1, AV.int .i64 (q.2 : Int)]).flatten
theorem stC_cons (b : Int) (k : Nat) (r : List (Int × Nat)) : stC ((b, k) :: r) = stC r ++ [AV.int .i64 b, AV.int .i64 (k : Int)] := by unfold stC; simp
theorem stC_len (r : List (Int × Nat)) : (stC r).length = r.length * 2 := by
 induction r with
 | nil => rfl
 | cons q r ih => obtain ⟨b, k⟩ := q; rw [stC_cons, qw, ih]; simp only [List.length_cons, List.length_nil]; omega
theorem dfs_lens {f : PFunc} {n k : Nat} (hE : EOk (EndsOf f) n) : (dfsN (EndsOf f) n k).2.1.length + (dfsN (EndsOf f) n k).2.2.length ≤ n := by
 have h := dfsN_inv hE k
 have h2 := nodup_len _ (intsTo n) h.nodup fun x hx => mem_intsTo.2 (h.rng x hx)
 rw [intsTo_len, qw, qx] at h2
 exact h2
theorem order_spec (f : PFunc) (hE : EndsOk f) (hn : f.blocks.length ≤ 100000) (hrev : ∀ (l : List Int) (i : Nat) (T : TypeId), l.length ≤ 200000 → ACall prog E 188 [.own i l.length] [(i, .grow 1 T (cI l))] fun r O => r = .tup [] ∧ O = [(i, .grow 1 T (cI l.reverse))]) :
  AFun prog E 150 [.agg (encF f)] (.fro 1 ((orderT (EndsOf f) f.blocks.length).map encI)) := by
 have hG := hE.grph
 have hpos := hG.npos
 refine zp func150 Z (by decide) Z<|zSr<|yc (cs := _) Z Z Z<|z8 (zAr Z)<|z2<|zSr<|zVzFF jh Z Z1 Z Z<|zVzLf Z8 Z<|zVGvlenM jl Z<|AOps.makeB (m := f.blocks.length) jm Yb Z Z Z Z Z (by simp) (by simp) (by show (1 : Int) * _ ≤ _; omega) (by omega)<|fun i12 => z8 (zAo Z)<|z2<|zSr<|z8 (zMo Z)<|z8 (yg (j := 0) jm Z5 Z Z Z ⟨_, .head⟩ (by first | rfl | (simp [cI_len, cB_len]; done) | (simp [cI_len, cB_len]; omega)) hG.npos)<|q8 (j := 0) Z5 Z Z .head (by first | omega | (simp; omega))<|z2<|zSr<|z8 (zAr Z)<|z2<|zSr<|z8 (zz (cps := [(0, [_]), (1, [_])]) (rs := [_, _]) pl259 Z Z Z)<|AOps.buildSliceO (cps := [(0, [_, _])]) (rs := [_, _]) ps260_1 Z Z Z Z Z<|fun i16 => z8 (zAo Z)<|z2<|adopt_wp (t := 4) (k := 1) (T := 3) Z<|fun i4 => zw (za (zb .t1))<|zc<|zi<|y7 (γ := Nat × Nat × Nat) [1, 3] (fun g => [(4, .own g.2.1 (dfsN (EndsOf f) f.blocks.length g.1).2.1.length), (5, .own g.2.2 (dfsN (EndsOf f) f.blocks.length g.1).2.2.length)]) (fun g => [(g.2.2, .grow 2 259 (stC (dfsN (EndsOf f) f.blocks.length g.1).2.2)), (g.2.1, .grow 1 3 (cI (dfsN (EndsOf f) f.blocks.length g.1).2.1)), (i12, .grow 1 4 (cB (dfsN (EndsOf f) f.blocks.length g.1).1))]) (fun g => g.1 ≤ 4 * f.blocks.length ∧ (dfsN (EndsOf f) f.blocks.length g.1).1.length = f.blocks.length) (fun g => dleft (dfsN (EndsOf f) f.blocks.length g.1)) (0, i4, i16) zR2 zLe (⟨qt _, by simp [dfsN, dfs0]⟩) ?_
 rintro ⟨k, io, il⟩ ⟨hk, hsl⟩
 try dsimp only at *
 have hI := dfsN_inv hG.toEOk k
 have hlen := dfs_lens (k := k) hG.toEOk
 have hlt := dfs_left hG.toEOk k
 have hstep : dfsN (EndsOf f) f.blocks.length (k + 1) = dstep (EndsOf f) (dfsN (EndsOf f) f.blocks.length k) := rfl
 rcases hx : dfsN (EndsOf f) f.blocks.length k with ⟨seen, out, st⟩
 rw [hx] at hI hlen hlt hstep hsl
 dsimp only at hlen hlt hsl
 cases st with
 | nil =>
 ·refine zc<|zSr<|z8 (zMo Z)<|z8 (qo Yh Z)<|zVGvgtr Z Z<|z2<|yj Z (by simp) ?_
  have hfin := dfs_still (E := EndsOf f) (n := f.blocks.length) (k := k) (by rw [hx]) hk
  refine y6<|zSr<|z8 (zMo Z)<|zy Z (zm (.r (.l (.r (.rest _))))) (hrev out io 3 (by omega)) ?_
  rintro r82 O82 ⟨rfl, rfl⟩
  refine z2<|zw (GStep.knowI (t := 4) Z .head (by simp))<|zSr<|zVzMf Z<|z8 (zAf Z)<|z2<|zj<|zk (x := .fro _ _) Z ?_
  unfold orderT; rw [hfin, hx]; rfl
  | cons q r =>
 ·obtain ⟨b, j⟩ := q
  have hbr := hI.rng b (by simp)
  have hbl : b.toNat < f.blocks.length := by omega
  have hEb : EndsOf f b = endsL f.blocks[b.toNat].term := EndsOf_get hbr.1 hbl
  have hjl := (hI.part (b, j) (by simp)).1
  dsimp only at hjl
  have hmn : dleft (dfsN (EndsOf f) f.blocks.length (k + 1)) < dleft (dfsN (EndsOf f) f.blocks.length k) := by rw [hstep, hx]; exact DInv.less hG.toEOk hI (by simp)
  have hk2 : k + 1 ≤ 4 * f.blocks.length := by simp at hlt; omega
  have hsn : (dfsN (EndsOf f) f.blocks.length (k + 1)).1.length = f.blocks.length := (dfsN_inv hG.toEOk (k + 1)).len
  rw [dstep_cons] at hstep
  rw [hx] at hmn
  rw [stC_cons]
  simp only [List.length_cons] at hlen ⊢
  refine zc<|zSr<|z8 (zMo Z)<|z8 (qo Yh Z)<|zVGvgtr Z Z<|z2<|yq Z (by simp)<|zf<|zi<|zSr<|z8 (zMo Z)<|z8 (zMo Z)<|z8 (qo Yh Z)<|z8 (Gv.sub Z Z (by unfold I64; show _ ∧ ((r.length + 1 : Nat) : Int) - 1 ≤ _; omega))<|z8 (Gv.idxOL (j := r.length) Yh sizeOf259 Z Z (by show ((r.length + 1 : Nat) : Int) - 1 = _; omega) ⟨_, .head⟩ (by simp) (by show r.length < r.length + 1; omega) (show r.length * 2 = (stC r).length by rw [stC_len]))<|z8 (zAp Z)<|z2<|zc<|zr (fun j => false) (by kernel_rfl) Z (zm (.r (.rest _)))<|zTk 0 Z (zFF jh Z Z1 Z Z)<|zTk 1 Z (zLf Z8 Z)<|zTk 2 Z (zMp Z)<|zTk 3 Z (y4 Z)<|zTk 4 Z (ze Yl Z j7 (by decide) Z Z)<|zTk 5 Z (Gv.loadL (c := .int _ _) (j := 0) j9 Z Z ⟨_, .head⟩ Z)<|zTk 6 Z (zIM b.toNat jl jw Z Z (by omega) (qq hbl))<|zTk 7 Z (zFF je Z Ze Z Z)<|zTk 8 Z (yl isAgg56 Ze Z Z)<|zOn 9 Z<|zg (ends_spec _) Z<|z2<|zTk 10 Z (zAf Z)<|zDn<|zc<|zSr<|zVzMp Z<|zVGvnilCheckO Z<|z8 (ze Yl Z j7 (by decide) Z Z)<|z8 (Gv.loadL (c := .int _ _) (j := 1) j9 Z Z ⟨_, .head⟩ Z)<|zVzMf Z<|zVGvlenM j6 Z ?_
  refine zVGveqlI Z Z<|z2<|zu Z (fun ce=>?_) (fun ce=>?_)
  ·have hje : j = (EndsOf f b).length := by rw [hEb]; have h0 : (j : Int) = ((endsL f.blocks[b.toNat].term).length : Int) := (by simpa using ce); omega
   rw [if_pos hje] at hstep
   refine zSr<|z8 (zMo Z)<|zVzMp Z<|zVGvnilCheckO Z<|z8 (ze Yl Z j7 (by decide) Z Z)<|z8 (Gv.loadL (c := .int _ _) (j := 0) j9 Z Z ⟨_, .head⟩ Z)<|zx (rows := [[_]]) ps23_1 Z Z Z Z Z<|ym (k := 1) j6 Zr Z Z Z Z Z (fun _ => .t1) (by rw [cI_len]; omega) (by decide) Z (by show (out.length + 1) * 8 ≤ _; omega) (by show out.length + 1 ≤ _; omega)<|fun i48 => z8 (zAo Z)<|z2<|zSr<|z8 (zMo Z)<|z8 (zMo Z)<|z8 (qo Yh Z)<|z8 (Gv.sub Z Z (by unfold I64; show _ ∧ ((r.length + 1 : Nat) : Int) - 1 ≤ _; omega))<|AOps.cutLast (j := r.length) Yh sizeOf259 Z Z (by show ((r.length + 1 : Nat) : Int) - 1 = _; omega) .head (by decide) (by rw [stC_len])<|z8 (zAo Z)<|z2<|y6 ?_
   exact ⟨(k + 1, i48, il), zR2, ⟨(by rw [hstep, qw]; rfl), (by rw [hstep]; rfl), trivial⟩, ⟨_, (.refl _), by rw [hstep]; dsimp only; rw [← cI_app]; rfl⟩, ⟨hk2, hsn⟩, by exact hmn⟩
  ·have hje : ¬ j = (EndsOf f b).length := by rw [hEb]; have h0 : ¬ (j : Int) = ((endsL f.blocks[b.toNat].term).length : Int) := (by simpa using ce); omega
   have hj2 : j < (endsL f.blocks[b.toNat].term).length := by rw [← hEb]; omega
   rw [if_neg hje] at hstep
   obtain ⟨c, hc⟩ : ∃ c, ge (EndsOf f b) j = c := ⟨_, rfl⟩
   have hcj : (endsL f.blocks[b.toNat].term)[j]? = some c := by rw [← hEb]; unfold ge at hc; rw [← hc, hEb, qq hj2]; rfl
   have hcr := hG.rng b hbr.1 hbr.2 c (by rw [hEb]; exact w1 hcj)
   rw [hc] at hstep
   have hgs : seen[c.toNat]? = some (gb seen c) := by unfold gb; rw [qq (by omega)]; rfl
   have hl2 := hG.len b
   rw [hEb] at hl2
   refine zf<|zSr<|zVzMf Z<|zVzMp Z<|zVGvnilCheckO Z<|z8 (ze Yl Z j7 (by decide) Z Z)<|z8 (Gv.loadL (c := .int _ _) (j := 1) j9 Z Z ⟨_, .head⟩ Z)<|z8 (zIM j j6 j7 Z Z Z hcj)<|zVzLi j9 Z<|zVzAi Z<|z2<|zSr<|zVzMp Z<|zVGvnilCheckO Z<|z8 (ze Yl Z j7 (by decide) Z Z)<|z8 (Gv.loadL (c := .int _ _) (j := 1) j9 Z Z ⟨_, .head⟩ Z)<|zVzAd Z Z<|zVGvnilCheckO Z<|z8 (ze Yl Z j7 (by decide) Z Z)<|AOps.storeL (j := 1) (l := [_]) (new := [_, _]) j7 Z Z Z Z Z Z Z .head Z Z Z<|z2<|zSr<|z8 (zMo Z)<|zVzMi Z<|z8 (yg (j := c.toNat) jm Z5 Z Z (by omega) ⟨_, .t2⟩ (by first | rfl | (simp [cI_len, cB_len]; done) | (simp [cI_len, cB_len]; omega)) (by omega))<|z8 (Gv.loadB (j := c.toNat) Yy Z ⟨_, .t2⟩ hgs)<|zVGvnot Z<|z2<|zu Z (fun cs=>?_) (fun cs=>?_)
   ·rw [if_neg (by simpa using cs)] at hstep
    refine zSr<|z8 (zMo Z)<|zVzMi Z<|z8 (yg (j := c.toNat) jm Z5 Z Z (by omega) ⟨_, .t2⟩ (by first | rfl | (simp [cI_len, cB_len]; done) | (simp [cI_len, cB_len]; omega)) (by omega))<|q8 (j := c.toNat) Z5 Z Z .t2 (by first | omega | (simp; omega))<|z2<|zRg<|z8 (zMo Z)<|zVzMi Z<|z8 (zz (cps := [(0, [_]), (1, [_])]) (rs := [_, _]) pl259 Z Z Z)<|zx (rows := [[_, _]]) ps260_1 Z Z Z Z Z<|ym (k := 2) Yh type259 Z Z Z Z Z (fun _ => .head) (by rw [qw, stC_len]; show r.length * 2 + 2 = (r.length + 1) * 2; omega) (by decide) Z (by show (r.length + 1 + 1) * 16 ≤ _; omega) (by show r.length + 1 + 1 ≤ _; omega)<|fun i80 => z8 (zAo Z)<|z2 ?_
    exact ⟨(k + 1, io, i80), zR2, ⟨(by rw [hstep]; rfl), (by rw [hstep]; rfl), trivial⟩, ⟨_, (.refl _), by rw [hstep, stC_cons, stC_cons]; rfl⟩, ⟨hk2, hsn⟩, by exact hmn⟩
   ·rw [if_pos (by simpa using cs)] at hstep
    refine zf ?_
    exact ⟨(k + 1, io, il), zR2, ⟨(by rw [hstep]; rfl), (by rw [hstep]; rfl), trivial⟩, ⟨_, (.refl _), by rw [hstep, stC_cons]; rfl⟩, ⟨hk2, hsn⟩, by exact hmn⟩
end Go.Proofs.YtiojekbkamegdaaGreatDoor
namespace Go.Proofs.YtiojekbkamegdaaGreatDoor
open Go.Proofs.Tryz
section
variable {E : World} {P : Program} {n : Nat} {l : List Oper} {W : Nat → Bool} {Q : AEnv → OL → Prop} {fuel : Nat} {listed : Array Bool} {env : AEnv} {O Os Om : OL}
theorem AAny.many {is : List Nat} (hr : Region.ready .any l.toArray listed = is) (h0 : is ≠ [])
  (h : ∀ k ∈ is, ∃ o, l[k]? = some o ∧ AOps P E l.toArray (fun env' Om' => AAny P E l W Q fuel (listed.setIfInBounds k true) env' Os Om') [o] env Om) : AAny P E l W Q (fuel + 1) listed env Os Om := fun I F ρ w Ls h1 hLs h2 => by
 refine ⟨fun h0' => absurd (hr.symm.trans h0') h0, fun k hk o2 ho2 => ?_⟩
 rw [hr] at hk
 rw [List.getElem?_toArray] at ho2
 obtain ⟨o, e, h⟩ := h k hk
 rw [e] at ho2
 cases ho2
 exact yz (fun ρ' w' ⟨J, env', Om', a, b, c, d⟩ => by
   have hst : stays I.k Ls E w' := by
    obtain ⟨J', L', h3, h4, h5⟩ := c.here
    exact ⟨J', L', a.k.trans h3, h4, h5⟩
   refine ⟨⟨hst.less, .inr hst⟩, AnyV.mono ?_ ?_ (fun _ _ => postK.up a) _ _ _ _ (d J F ρ' w' Ls b (hLs.mono a) c)⟩
   ·rintro w ⟨J', L', h3, h4⟩; exact ⟨J', L', a.k.trans h3, h4⟩
   ·rintro w ⟨J', L', h3, h4⟩; exact ⟨J', L', a.k.trans h3, h4⟩) _ _ _ (h I (Ls ++ F) ρ w h1 h2)
theorem AAny.four {i j m q : Nat} {o1 o2 o3 o4 : Oper} (hi : l[i]? = some o1) (hj : l[j]? = some o2) (hm : l[m]? = some o3) (hq : l[q]? = some o4) (hr : Region.ready .any l.toArray listed = [i, j, m, q])
  (h1 : AOps P E l.toArray (fun env' Om' => AAny P E l W Q fuel (listed.setIfInBounds i true) env' Os Om') [o1] env Om)
  (h2 : AOps P E l.toArray (fun env' Om' => AAny P E l W Q fuel (listed.setIfInBounds j true) env' Os Om') [o2] env Om)
  (h3 : AOps P E l.toArray (fun env' Om' => AAny P E l W Q fuel (listed.setIfInBounds m true) env' Os Om') [o3] env Om)
  (h4 : AOps P E l.toArray (fun env' Om' => AAny P E l W Q fuel (listed.setIfInBounds q true) env' Os Om') [o4] env Om) : AAny P E l W Q (fuel + 1) listed env Os Om :=
 AAny.many hr (by simp) fun k hk => by
  simp only [List.mem_cons, List.not_mem_nil, or_false] at hk
  rcases hk with rfl | rfl | rfl | rfl
  ·exact ⟨_, hi, h1⟩
  ·exact ⟨_, hj, h2⟩
  ·exact ⟨_, hm, h3⟩
  ·exact ⟨_, hq, h4⟩
end
end Go.Proofs.YtiojekbkamegdaaGreatDoor
namespace Go.Proofs.YtiojekbkamegdaaGreatDoor
open Go.Proofs.Tryz
def rowO (b : Nat) (T : TypeId) (vs : List Value) : AObj := .heap fun L => L = [(b, .cells vs.toArray T (0, 0))]
def rsl (b off n c : Nat) : AV := .raw (.slice (some ⟨b, off, none⟩) n c)
section
variable {E : World} {P : Program} {ops : Array Oper} {K : AEnv → OL → Prop} {env : AEnv} {O O' O'' : OL} {rest : List Oper}
variable {d ty : Nat} {pos : String} {af : Array Edge} {x y z : Operand} {t u e T : TypeId}
theorem AOps.makeRow {i : TypeInfo} {zv z1 : Value} {m : Nat} {k1 k2 : IntKind} {l l' : Int} (ht : P.underlying t = some (.slice e)) (hi : P.info? e = some i) (hz : i.zero = some zv) (hzc : zv.cells = #[z1]) (hk : i.size = 1) (hx : aev env x = .int k1 l) (hy : aev env y = .int k2 l')
  (hl : l = (m : Int)) (hl' : l' = (m : Int)) (hb : (i.bytes : Int) * (m : Int) ≤ 281474976710656) (hm : m ≤ 281474976710656) (kk : ∀ b, AOps P E ops K rest (aupd env d (rsl b 0 m m)) ((0, rowO b e (List.replicate m z1)) :: O)) :
  AOps P E ops K (Oper.mk (some d) (.makeSlice t x y) ty pos af none :: rest) env O := fun I F ρ w h1 h2 => by
 obtain ⟨htop, L, hL, hS⟩ := h2
 refine Ops.make1 ht hi hz hzc hk (evI h1 hx) (evI h1 hy) hl hl' hb hm hS fun b w' hS' => ?_
 exact kk b I F _ _ (h1.upd d rfl) ⟨htop, _, ⟨[(b, .cells (List.replicate m z1).toArray e (0, 0))], L, rfl, rfl, hL⟩, by simpa using hS'⟩
theorem Gv.rowLo {b n c j : Nat} {a : Int} (ht : P.underlying t = some (.slice e)) (hs : ∀ w, (sizeOf e).run P w = .ok 1 w) (hx : aev env x = rsl b 0 n c) (hy : aev env y = .int .i64 a) (hi : a = (j : Int)) (hj : j ≤ n) (hc : j < c) (hnc : n ≤ c) :
  Gv P env O (Oper.mk (some d) (.slice t x (some y) none none) ty pos af none) (rsl b j (n - j) (c - j)) := Gv.ofEv fun I ρ h => by
 have h1 := evRaw h hx
 have h2 := evI h hy
 subst hi
 refine ⟨_, Z, fun w=>?_⟩
 have hcj : ¬ c = j := by omega
 simp [execOp, Instr.sliceAt, Instr.slice, Instr.sliceBounds, Instr.sliceBound, asIntOf, Sem.run_bind, run_underlying ht, hs, h1, h2, hcj, hj, addr_add]
theorem Gv.rowHi {b n c j : Nat} {a : Int} (ht : P.underlying t = some (.slice e)) (hs : ∀ w, (sizeOf e).run P w = .ok 1 w) (hx : aev env x = rsl b 0 n c) (hy : aev env y = .int .i64 a) (hi : a = (j : Int)) (hc : j ≤ c) :
  Gv P env O (Oper.mk (some d) (.slice t x none (some y) none) ty pos af none) (rsl b 0 j c) := Gv.ofEv fun I ρ h => by
 have h1 := evRaw h hx
 have h2 := evI h hy
 subst hi
 refine ⟨_, Z, fun w=>?_⟩
 simp [execOp, Instr.sliceAt, Instr.slice, Instr.sliceBounds, Instr.sliceBound, asIntOf, Sem.run_bind, run_underlying ht, hs, h1, h2, hc, addr_add]
theorem Gv.lenRow {b off m c : Nat} (ht : P.underlying t = some (.slice T)) (hx : aev env x = rsl b off m c) : Gv P env O (Oper.mk (some d) (.call { callee := .builtin .len, args := #[x], argTypes := #[t] }) ty pos af none) (.int .i64 m) := Gv.ofEv fun I ρ h => by
 have h1 := evRaw h hx
 exact ⟨_, rfl, fun w => by simp [execOp, resolve, h1, invoke, builtin, Builtin.len_, run_underlying ht, goInt]⟩
theorem AOps.copyRow {b off dl dc sl q : Nat} {vs cs : List Value} {ty2 : TypeId} (ht : P.underlying t = some (.slice e)) (hs : (P.info? e).map (·.size) = some 1) (hx : aev env x = rsl b off dl dc)
  (hq : cs.length = q) (hmin : q = Nat.min sl dl) (hO : Put O 0 (rowO b T vs) (rowO b T (vs.take off ++ cs ++ vs.drop (off + q))) O') (hfit : off + q ≤ vs.length) (h1c : ∀ v ∈ cs, v.oneCell' = true)
  (hy : ∀ I F ρ w, RepE I env ρ → SLA I O F E w → ∃ a sc, ev ρ y = .slice (some a) sl sc ∧ ∀ j v, cs[j]? = some v → w.cell? (a.add j) = some v)
  (kk : AOps P E ops K rest (aupd env d (.int .i64 q)) O') :
  AOps P E ops K (Oper.mk (some d) (.call { callee := .builtin .copy, args := #[x, y], argTypes := #[t, ty2] }) ty pos af none :: rest) env O := fun I F ρ w h1 h2 => by
 obtain ⟨a, sc, ey, hsrc⟩ := hy I F ρ w h1 h2
 obtain ⟨htop, L, hL, hS⟩ := h2
 have ex := evRaw h1 hx
 obtain ⟨A, B, hp, hA, hback⟩ := hO.rep hL
 have hA : A = [(b, .cells vs.toArray T (0, 0))] := hA
 subst hA
 have hS2 : SL I.k ((b, .cells vs.toArray T (0, 0)) :: (B ++ F)) E w := hS.perm ((hp.append_right F).symm)
 have hrun := run_copy_row (P := P) w t ty2 ty e b off dl dc a sl sc vs.toArray T cs ht hs (hS2.own _ (.head _)) (by rw [hq, hmin]) hsrc (by simpa [hq] using hfit) h1c
 rw [hq] at hrun
 obtain ⟨L', h5, h6⟩ := hback (qb I) (A' := [(b, .cells (vs.take off ++ cs ++ vs.drop (off + q)).toArray T (0, 0))]) rfl
 refine Ops.step Z ?_
 unfold OpW
 have hex : (execOp (Go.Proofs.YtiojekbkamegdaaGreatDoor.ev ρ) (Oper.mk (some d) (.call { callee := .builtin .copy, args := #[x, y], argTypes := #[t, ty2] }) ty pos af none)).run P w = .ok (.value (goInt q)) (w.setRow b (vs.take off ++ cs ++ vs.drop (off + q)).toArray) := by
  simp only [execOp, resolve]
  simp at hrun
  simp [invoke, builtin, ex, ey, hrun]
 rw [hex]
 refine kk I F _ _ (h1.upd d Z) ⟨htop, L', h5, ?_⟩
 exact (hS2.turn1).perm (h6.append_right F)
theorem AWP.rowOwn {t b m : Nat} {vs : List Value} {O1 : OL} {c : Code} {Q : Exit → AEnv → OL → Prop} {n : Nat} (hv : env t = rsl b 0 m m) (hO : Pick O 0 (rowO b T vs) O1) (hm : vs.length = m) (hc : ∀ u ∈ vs, u.oneCell' = true)
  (h : ∀ i, AWP P E n c Q (aupd env t (.own i m)) ((i, .grow 1 T (vs.map lit)) :: O1)) : AWP P E n c Q env O := fun I F ρ w h1 h2 => by
 obtain ⟨i, hi⟩ := h2.name
 obtain ⟨J, e1, hle, e2, htop⟩ := hi (some b, m)
 obtain ⟨_, L, hL, hS⟩ := h2
 obtain ⟨A, B, hp, hA, hB⟩ := hO.rep hL
 have hA : A = [(b, .cells vs.toArray T (0, 0))] := hA
 subst hA
 refine (h i J F ρ w (fun q=>?_) ⟨htop, _, ⟨[(b, .cells vs.toArray T (0, 0))], B, Z, ⟨some b, m, m, vs, e2, lit_reps J vs, hc, OwnS.made (by rw [hm, Nat.mul_one])⟩, hB.mono hle⟩, by rw [e1]; exact hS.perm (hp.symm.append_right F)⟩).mono fun _ _ _ => postE.up hle
 unfold aupd
 cases hb : Nat.beq q t with
 | false => exact qi hle _ _ (h1 q)
 | true =>
  have : q = t := Nat.eq_of_beq_eq_true hb
  subst this
  have h4 := h1 q
  rw [hv] at h4
  exact ⟨some b, m, e2, h4⟩
end
end Go.Proofs.YtiojekbkamegdaaGreatDoor
namespace Go.Proofs.YtiojekbkamegdaaGreatDoor
open Go.Proofs.Tryz
open Go.Proofs
variable {E : World}
set_option maxRecDepth 20000
theorem reverse_own (l : List Int) (i : Nat) (T : TypeId) (hl : l.length ≤ 200000) : ACall prog E 188 [.own i l.length] [(i, .grow 1 T (cI l))] fun r O => r = .tup [] ∧ O = [(i, .grow 1 T (cI l.reverse))] :=
 ACall.turned (g := List.reverse) (B := 200001) func188 rfl (by decide) (fun l => List.length_reverse) (fun blk cap zs w hH _ hz => (Tryz.slices_Reverse_int blk 0 cap zs w hH (by omega)).mono fun e w' ⟨h1, n, h2⟩ => ⟨h1, n, #[], by rw [h2, Go.Sort.grow_empty]⟩)
  (fun cap w => Tryz.slices_Reverse_int_empty none cap w) rfl (by omega)
theorem sort_own (l : List Int) (i : Nat) (T : TypeId) (hl : l.length ≤ 200000) : ACall prog E 155 [.own i l.length] [(i, .grow 1 T (cI l))] fun r O => r = .tup [] ∧ O = [(i, .grow 1 T (cI (sortI l)))] :=
 ACall.turned (g := sortI) (B := 200001) func155 rfl (by decide) (fun l => (sortI_perm l).length_eq) (fun blk cap zs w hH hb hz => Tryz.slices_Sort_int blk 0 cap zs w hH hb (by omega))
  (fun cap w => Tryz.slices_Sort_int_none none cap w) rfl (by omega)
theorem AFun.ofSame {E : World} {P : Program} {f : FuncId} {fn : Func} {c : Code} {ars : List AV} {vs : List Value} {r : Value} {x : AV} (hf : P.funcs[f]? = some fn) (hb : fn.body = some c) (hn : fn.name ≠ "runtime.NumGoroutine") (has : ars = vs.map lit)
  (h : ∀ w, Calls P f vs.toArray w fun e w' => e = .returned r ∧ w' = w) (hr : ∀ I, RepV I x r) : AFun P E f ars x := fun I F w us h1 h2 => by
 subst has
 rw [lit_uns h1]
 refine Fn.ofCalls hf hb hn ?_
 exact (h w).mono fun e w' ⟨he, hw⟩ => ⟨_, he, I, x, [], .refl _, hr I, by rw [hw]; exact h2, rfl⟩
theorem mulw_spec (x y : Nat) (hx : x < 18446744073709551616) (hy : y < 18446744073709551616) : AFun prog E 153 [.int .u64 (x : Int), .int .u64 (y : Int)] (.tup [.int .u64 ((x * y / 18446744073709551616 : Nat) : Int), .int .u64 ((x * y % 18446744073709551616 : Nat) : Int)]) :=
 AFun.ofSame (vs := [.int .u64 x, .int .u64 y]) func153 rfl (by decide) rfl (fun w => Tryz.bits_Mul x y hx hy w) (fun I => ⟨_, rfl, _, _, rfl, rfl, _, _, rfl, rfl, rfl⟩)
def vsR (v : Int) (n k : Nat) : List Value := List.replicate k (.int .i64 v) ++ List.replicate (n - k) (.int .i64 0)
theorem vsR_len {v : Int} {n k : Nat} (h : k ≤ n) : (vsR v n k).length = n := by unfold vsR; simp; omega
theorem vsR_take {v : Int} {n k q : Nat} (h : q ≤ k) : (vsR v n k).take q = List.replicate q (.int .i64 v) := by unfold vsR; rw [List.take_append_of_le_length (by simp; exact h), List.take_replicate, Nat.min_eq_left h]
theorem vsR_copy {v : Int} {n k q : Nat} (h : k + q ≤ n) : (vsR v n k).take k ++ List.replicate q (.int .i64 v) ++ (vsR v n k).drop (k + q) = vsR v n (k + q) := by
 rw [vsR_take (Nat.le_refl _)]
 unfold vsR
 rw [List.drop_append, List.drop_eq_nil_of_le (by simp), List.length_replicate, List.drop_replicate, List.replicate_append_replicate, List.nil_append]
 congr 2
 omega
theorem vsR_one {v : Int} {n k : Nat} : ∀ u ∈ vsR v n k, u.oneCell' = true := fun u hu => by
 unfold vsR at hu
 rcases List.mem_append.1 hu with h | h
 ·rw [List.eq_of_mem_replicate h]; rfl
 ·rw [List.eq_of_mem_replicate h]; rfl
theorem vsR_full (v : Int) (n : Nat) : (vsR v n n).map lit = cI (List.replicate n v) := by unfold vsR cI; simp [lit]
theorem fro_one {I : G} {k : IntKind} {v : Int} {x : Value} (h : RepV I (.fro 1 [[.int k v]]) x) : ∃ b off c, x = .slice (some ⟨b, off, none⟩) 1 c ∧ KAt I.k b off (.int k v) := by
 obtain ⟨a, n, c, e, hn, _, _, ⟨b, off, vs, ea, hl, hr, hk⟩, _⟩ := h
 obtain ⟨u, us, rfl, hu, _⟩ := hr
 have hu : u = .int k v := hu
 subst ea hu
 simp only [List.length_cons, List.length_nil] at hn
 subst hn
 exact ⟨b, off, c, e, by have := hk 0 _ rfl; simpa using this⟩
theorem srcFro {env : AEnv} {O : OL} {y : Operand} {k : IntKind} {v : Int} (hy : aev env y = .fro 1 [[.int k v]]) : ∀ I F ρ w, RepE I env ρ → SLA I O F E w → ∃ a sc, ev ρ y = .slice (some a) 1 sc ∧ ∀ j u, ([Value.int k v] : List Value)[j]? = some u → w.cell? (a.add j) = some u := fun I F ρ w h1 h2 => by
 have h := h1.ev y
 rw [hy] at h
 obtain ⟨b, off, c, e, hk⟩ := fro_one h
 obtain ⟨_, L, _, hS⟩ := h2
 refine ⟨⟨b, off, none⟩, c, e, fun j u hj => ?_⟩
 cases j with
 | zero => simp at hj; subst hj; rw [addr_add]; exact hS.at_ (hk.at_ _)
 | succ j => simp at hj
theorem srcRow {env : AEnv} {O O' : OL} {y : Operand} {b n c : Nat} {T : TypeId} {vs cs : List Value} (hy : aev env y = rsl b 0 n c) (hO : Pick O 0 (rowO b T vs) O') (hc : ∀ (j : Nat) u, cs[j]? = some u → vs[j]? = some u) : ∀ I F ρ w, RepE I env ρ → SLA I O F E w → ∃ a sc, ev ρ y = .slice (some a) n sc ∧ ∀ j u, cs[j]? = some u → w.cell? (a.add j) = some u := fun I F ρ w h1 h2 => by
 have h := evRaw h1 hy
 obtain ⟨_, L, hL, hS⟩ := h2
 obtain ⟨A, B, hp, hA, hB⟩ := hO.rep hL
 have hA : A = [(b, .cells vs.toArray T (0, 0))] := hA
 subst hA
 have hS2 : SL I.k ((b, .cells vs.toArray T (0, 0)) :: (B ++ F)) E w := hS.perm ((hp.append_right F).symm)
 refine ⟨⟨b, 0, none⟩, c, h, fun j u hj => ?_⟩
 rw [addr_add, hS2.cell_own, List.getElem?_toArray, Nat.zero_add]
 exact hc j u hj
theorem repeat_own (v : Int) (n : Nat) (hn : n ≤ 100000) (h0 : 0 < n) : ACall prog E 90 [.fro 1 ([v].map encI), .int .i64 n] [] (fun x O' => ∃ i : Nat, x = .own i n ∧ O' = [(i, .grow 1 3 (cI (List.replicate n v)))]) := by
 have hw : IntKind.wrap .u64 (n : Int) = n := by unfold IntKind.wrap; simp [IntKind.bits, IntKind.signed]; omega
 have hm : (1 * n / 18446744073709551616 : Nat) = 0 := by omega
 have hm2 : (1 * n % 18446744073709551616 : Nat) = n := by omega
 refine zp func90 Z (by decide) Z ?_
 have hmul : AFun prog E 153 [.int .u64 1, .int .u64 (IntKind.wrap .u64 (n : Int))] (.tup [.int .u64 0, .int .u64 (n : Int)]) := by
  have := mulw_spec (E := E) 1 n (by omega) (by omega)
  rw [hm, hm2] at this
  rw [hw]; exact this
 refine zSr<|z8 (zAr Z)<|z2<|zc<|zSr<|zVzMi Z<|zVGvlss Z Z<|z2<|yj Z (by simp)<|zf<|zSr<|zVzMf Z<|zVGvlenM j6 Z<|z8 (qk Y7 Ys Z)<|zVzMi Z<|z8 (qk Y7 Ys Z)<|zg (hmul) Z<|z8 (zMu Z)<|z8 (zXi Z Z)<|z8 (zXi Z Z)<|zVzAi Z<|zVzAi Z<|z2<|zc<|zSr<|zVzMi Z<|zVGvgtr Z Z<|zVzMb Z<|z7 Z Z (by decide)<|zVzMi Z<|z7 Z Z (by decide)<|zVGvgtr Z Z<|z8 (zPf Z (by decide) Z)<|z2<|yj Z (by simp; omega)<|zf<|zSr<|zVzMi Z<|z8 (qk Ys Y7 Z)<|AOps.makeRow (m := n) j6 Zr Z Z Z Z Z (by show IntKind.wrap .i64 (n : Int) = n; unfold IntKind.wrap; simp [IntKind.bits, IntKind.signed]; omega) (by show IntKind.wrap .i64 (n : Int) = n; unfold IntKind.wrap; simp [IntKind.bits, IntKind.signed]; omega) (by show (8 : Int) * _ ≤ _; omega) (by omega)<|fun b => z8 (zAr Z) ?_
 refine z2<|zSr<|z8 (yw (v := .raw _) Z)<|zVzMf Z<|AOps.copyRow (cs := [.int .i64 v]) (q := 1) j6 Z Z Z (Nat.min_eq_left h0).symm .head (by rw [List.length_replicate]; omega) (by simp [Value.oneCell']) (srcFro Z) ?_
 have hstart : (List.replicate n (Value.int .i64 0)).take 0 ++ [Value.int .i64 v] ++ (List.replicate n (Value.int .i64 0)).drop (0 + 1) = vsR v n 1 := by unfold vsR; simp [List.drop_replicate]
 rw [hstart]
 refine zVzAi Z<|z2<|zc<|zi<|y7 (γ := Nat) [7] (fun k => [(8, .int .i64 k)]) (fun k => [(0, rowO b 3 (vsR v n k))]) (fun k => 1 ≤ k ∧ k ≤ n) (fun k => n - k) 1 zR1 zLe (⟨Nat.le_refl _, h0⟩) ?_
 rintro k ⟨hk1, hk⟩
 refine zc<|zSr<|zVzMi Z<|z8 (yw (v := .raw _) Z)<|z8 (Gv.lenRow j6 Z)<|zVGvlss Z Z<|z2<|zo Z (fun ck=>?_) (fun ck=>?_)
 ·have hk2 : k < n := by simp at ck; omega
  obtain ⟨q, hq⟩ : ∃ q, q = min k (n - k) := ⟨_, rfl⟩
  have hq1 : 0 < q ∧ q ≤ k ∧ k + q ≤ n := by omega
  refine zf<|zi<|zr (fun j => false) (by kernel_rfl) Z (zm (.rest _))<|zTk 0 Z (zMi Z)<|zTk 1 Z (yw (v := .raw _) Z)<|zTk 2 Z (zMi Z)<|zTk 3 Z (Gv.rowLo (j := k) j6 j7 Z Z Z (by omega) (by omega) (by omega))<|zTk 4 Z (yw (v := .raw _) Z)<|zTk 5 Z (zMi Z)<|zTk 6 Z (Gv.rowHi (j := k) j6 j7 Z Z Z (by omega))<|zOn 7 Z<|AOps.copyRow (cs := List.replicate q (.int .i64 v)) (q := q) j6 Z Z (List.length_replicate ..) hq .head (by rw [vsR_len hk]; omega) (fun u hu => by rw [List.eq_of_mem_replicate hu]; rfl) (srcRow (vs := vsR v n k) Z .head (fun j u hj => by rw [← vsR_take (v := v) (n := n) hq1.2.1, List.getElem?_take] at hj; split at hj; exact hj; cases hj)) ?_
  rw [vsR_copy hq1.2.2]
  refine z2<|zTk 8 Z (zAd Z Z)<|zTk 9 Z (zAi Z)<|zDn ?_
  exact ⟨k + q, zR1, zR1, zLe, ⟨by omega, hq1.2.2⟩, by omega⟩
 ·have hkn : k = n := by simp at ck; omega
  subst hkn
  refine y6<|zSr<|z8 (yw (v := .raw _) Z)<|z8 (zAr Z)<|z2<|AWP.rowOwn (t := 4) Z .head (vsR_len (Nat.le_refl _)) vsR_one (fun i=>?_)
  rw [vsR_full]
  refine zj<|zk (x := .own _ _) Z ?_
  exact ⟨i, rfl, rfl⟩
end Go.Proofs.YtiojekbkamegdaaGreatDoor
