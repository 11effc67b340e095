/- The document's numbers in halves. Plain law. No conditions but int64s. -/
import Derived.Test.YtjnpcfpecilejaaGreatDoorKc
set_option linter.unusedVariables false
set_option linter.unusedSimpArgs false
set_option linter.unusedSectionVars false
namespace Go.Proofs.YtjnpcfpecilejaaGreatDoor
open Go.Proofs.Tryz
open Go.Proofs
variable {E : World}
set_option maxRecDepth 20000
theorem indexFuncJ_spec {p : Int → Bool} {fn : FuncId} {c : List AV} (xs : List Int) (hl : xs.length ≤ 281474976710656) (hp : ∀ x ∈ xs, AFun prog E fn ([.int .i64 x] ++ c) (.bool (p x))) :
  AFun prog E 148 [.fro 1 (xs.map encI), .fn fn [] c] (.int .i64 (firstI p xs 0)) := by
 refine zn func148 rfl (by decide) rfl<|zSr<|z2 (zAi rfl)<|z6<|za<|zSr<|z2 (zMf rfl)<|z2 (zz underlying23 rfl)<|z2 (zMi rfl)<|z6<|zi<|y6 (γ := Nat) [0, 1, 7] (fun k => [(8, .int .i64 k)]) (fun k => []) (fun k => k ≤ xs.length ∧ (xs.take k).all (fun x => !p x)) (fun k => xs.length - k) 0 zR1 zLe (⟨qk _, rfl⟩) ?_
 rintro k ⟨hk, hall⟩
 refine zSr<|z2 (y7 rfl rfl)<|z6<|za<|zl rfl (fun ck=>?_) (fun ck=>?_)
 ·have hk2 : k < xs.length := by omega
  refine zf<|za<|zi<|zSr<|z2 (zMi rfl)<|z2 (zAi rfl)<|z6<|zSr<|z2 (yt (v := .fn _ _ _) rfl)<|z2 (zMf rfl)<|z2 (zMi rfl)<|z2 (q4 underlying23 sizeOf3 rfl rfl rfl (qh (by omega)))<|z2 (zLi isAgg3 rfl)<|AOps.callVP rfl (hp _ (ql hk2)) rfl<|z6<|zy rfl (fun cp=>?_) (fun cp=>?_)
  ·refine zSr<|z2 (zMi rfl)<|z2 (zAi rfl)<|z6<|zd<|zm (x := .int _ _) rfl ?_
   rw [firstI_drop p xs k hk hall, List.drop_eq_getElem_cons hk2, firstI, if_pos cp]
  ·refine zf<|zRg<|z2 (zAd rfl rfl)<|z2 (zMi rfl)<|z6 ?_
   exact ⟨k + 1, zR3, zR1, zLe, ⟨hk2, by rw [qi hk2, List.all_append, hall]; simp [cp]⟩, by omega⟩
 ·have hkn : k = xs.length := by omega
  refine y3<|zSr<|z2 (zAi rfl)<|z6<|zd<|zm (x := .int _ _) rfl ?_
  rw [firstI_drop p xs k hk hall, hkn, List.drop_length, firstI]
theorem containsFuncJ_spec {p : Int → Bool} {fn : FuncId} {c : List AV} (xs : List Int) (hl : xs.length ≤ 281474976710656) (hp : ∀ x ∈ xs, AFun prog E fn ([.int .i64 x] ++ c) (.bool (p x))) :
  AFun prog E 98 [.fro 1 (xs.map encI), .fn fn [] c] (.bool (xs.any p)) := by
 refine zn func98 rfl (by decide) rfl<|zSr<|z2 (zAb rfl)<|z6<|zSr<|z2 (zMf rfl)<|z2 (yt (v := .fn _ _ _) rfl)<|zb (indexFuncJ_spec xs hl hp) rfl<|z2 (q0 rfl rfl)<|z2 (zAb rfl)<|z6<|zd<|zm (x := .bool _) rfl ?_
 rw [firstI_ge]
def kindV (f : PFunc) (v : Int) : Int := ((f.vars[v.toNat]?).map (·.ty)).getD 0
theorem hasV_get {f : PFunc} {v : Int} (h : hasV f v = true) : ∃ x, f.vars[v.toNat]? = some x ∧ v = (v.toNat : Int) ∧ kindV f v = x.ty := by
 unfold hasV at h
 simp only [qw, qy] at h
 have hl : v.toNat < f.vars.length := by omega
 refine ⟨f.vars[v.toNat], qh hl, by omega, ?_⟩
 unfold kindV; rw [qh hl]; rfl
theorem kind_spec (f : PFunc) (v : Int) (hv : hasV f v = true) : AFun prog E 168 [.agg (encF f), .int .i64 v] (.int .i64 (kindV f v)) := by
 obtain ⟨x, hx, hv2, hk⟩ := hasV_get hv
 rw [hk]
 refine zn func168 rfl (by decide) rfl<|zSr<|y1 (cs := _) rfl rfl rfl<|z2 (zAi rfl)<|z6<|zSr<|z2 (zFF underlying26 rfl sizeOf22 rfl rfl)<|z2 (zLf isAgg22 rfl)<|z2 (zMi rfl)<|z2 (zIM v.toNat underlying22 sizeOf56 rfl rfl hv2 hx)<|z2 (zFF underlying56 rfl sizeOf54 rfl rfl)<|z2 (zLi isAgg54 rfl)<|z2 (zAi rfl)<|z6<|zd<|zm (x := .int _ _) rfl ?_
 rfl
theorem any_spec (op : Int) : AFun prog E 169 [.int .i64 op] (.bool (decide (op = 1))) := by
 refine zn func169 rfl (by decide) rfl<|zSr<|z2 (zAb rfl)<|z6<|zSr<|z2 (zMi rfl)<|z2 (zw rfl rfl)<|z2 (zAb rfl)<|z6<|zd<|zm (x := .bool _) rfl ?_
 simp_all
theorem headD_at : ∀ {l : List Int} (h : 0 < l.length), l.headD 0 = l[0]
 | [], h => absurd h (Nat.lt_irrefl 0)
 | _ :: _, _ => rfl
def instT (f : PFunc) (x : PInst) : Bool := if x.op = 1 then decide (kindV f x.dst = kindV f (x.args.headD 0)) else decide (x.args.map (kindV f) = takesL x.op) && (!makesB x.op || decide (kindV f x.dst = makesT x.op))
theorem map_take_succ {f : PFunc} {xs ts : List Int} {k : Nat} (h1 : k < xs.length) (h2 : k < ts.length) (h : (xs.take k).map (kindV f) = ts.take k) (hk : kindV f xs[k] = ts[k]) : (xs.take (k + 1)).map (kindV f) = ts.take (k + 1) := by
 rw [qi h1, qi h2, List.map_append, h, List.map_cons, List.map_nil, hk]
theorem map_ne {f : PFunc} {xs ts : List Int} {k : Nat} (h1 : k < xs.length) (h2 : k < ts.length) (hk : ¬ kindV f xs[k] = ts[k]) : ¬ xs.map (kindV f) = ts := by
 intro e
 apply hk
 subst e
 rw [List.getElem_map]
theorem yinst_spec (f : PFunc) (x : PInst) (ha : x.args.all (hasV f) = true) (hl : x.args.length = (takesL x.op).length) (hd : makesB x.op = true → hasV f x.dst = true) :
  AFun prog E 116 [.agg (encF f), .agg (encInst x)] (.bool (instT f x)) := by
 have hlen : (takesL x.op).length ≤ 3 := by
  rcases kRow_mem x.op with h | h
  ·unfold takesL; rw [h]; decide
  ·have : ∀ r ∈ kindT, r.2.1.data.toList.length ≤ 3 := by decide
   have := this _ h
   unfold takesL; simpa using this
 refine zn func116 rfl (by decide) rfl<|zSr<|y1 (cs := _) rfl rfl rfl<|y1 (cs := _) rfl rfl rfl<|z2 (zAb rfl)<|z6<|za<|zSr<|z2 (zFF underlying33 rfl sizeOf31 rfl rfl)<|z2 (zLi isAgg31 rfl)<|zb (any_spec _) rfl<|z6<|zl rfl (fun c1=>?_) (fun c1=>?_)
 ·have e1 : x.op = 1 := by simpa using c1
  have hlz : 0 < x.args.length := by rw [hl, e1]; decide
  have hv0 : hasV f x.args[0] = true := List.all_eq_true.1 ha _ (ql hlz)
  have hvd : hasV f x.dst = true := hd (by rw [e1]; decide)
  refine za<|zt (fun j => false) (by kernel_rfl) rfl (zp (.rest _))<|zTk 0 rfl (zh isAgg26 sizeOf26 rfl rfl)<|zTk 1 rfl (zFF underlying33 rfl sizeOf3 rfl rfl)<|zTk 2 rfl (zLi isAgg3 rfl)<|zTk 4 rfl (zh isAgg26 sizeOf26 rfl rfl)<|zTk 5 rfl (zFF underlying33 rfl sizeOf23 rfl rfl)<|zTk 6 rfl (zLf isAgg23 rfl)<|zTk 7 rfl (zIM 0 underlying23 sizeOf3 rfl rfl rfl (qh hlz))<|zTk 8 rfl (zLi isAgg3 rfl)<|zOn 3 rfl<|zb (kind_spec _ _ (by assumption)) rfl<|z6<|zOn 9 rfl<|zb (kind_spec _ _ (by assumption)) rfl<|z6<|zTk 10 rfl (zw rfl rfl)<|zTk 11 rfl (zAb rfl)<|zDn<|zd<|zm (x := .bool _) rfl ?_
  exact jb (by unfold instT; rw [if_pos e1, headD_at hlz])
 ·have e1 : ¬ x.op = 1 := by simpa using c1
  refine zf<|za<|zSr<|z2 (zFF underlying33 rfl sizeOf31 rfl rfl)<|z2 (zLi isAgg31 rfl)<|zb (takes_spec _) rfl<|z2 (zz underlying217 rfl)<|z2 (zMi rfl)<|z6<|zi<|y6 (γ := Nat) [2, 3, 25, 26] (fun k => [(27, .int .i64 k)]) (fun k => []) (fun k => k ≤ (takesL x.op).length ∧ (x.args.take k).map (kindV f) = (takesL x.op).take k) (fun k => (takesL x.op).length - k) 0 zR1 zLe (⟨qk _, rfl⟩) ?_
  rintro k ⟨hk, hall⟩
  refine zSr<|z2 (y7 rfl rfl)<|z6<|za<|zl rfl (fun ck=>?_) (fun ck=>?_)
  ·have hk2 : k < (takesL x.op).length := by simp at ck; omega
   have hk3 : k < x.args.length := by omega
   have hvk : hasV f x.args[k] = true := List.all_eq_true.1 ha _ (ql hk3)
   refine zf<|za<|zi<|zSr<|z2 (zMi rfl)<|z2 (zIM k underlying217 sizeOf54 rfl rfl rfl (qh hk2))<|z2 (zLi isAgg54 rfl)<|z2 (zAi rfl)<|z2 (zAi rfl)<|z6<|za<|zt (fun j => false) (by kernel_rfl) rfl (zp (.rest _))<|zTk 0 rfl (zh isAgg26 sizeOf26 rfl rfl)<|zTk 1 rfl (zFF underlying33 rfl sizeOf23 rfl rfl)<|zTk 2 rfl (zLf isAgg23 rfl)<|zTk 3 rfl (zMi rfl)<|zTk 4 rfl (zIM k underlying23 sizeOf3 rfl rfl rfl (qh hk3))<|zTk 5 rfl (zLi isAgg3 rfl)<|zTk 7 rfl (zMi rfl)<|zOn 6 rfl<|zb (kind_spec _ _ (by assumption)) rfl<|z6<|zTk 8 rfl (yk rfl rfl)<|zDn<|zy rfl (fun cn=>?_) (fun cn=>?_)
   ·refine zSr<|z2 (zAb rfl)<|z6<|zd<|zm (x := .bool _) rfl ?_
    exact jb (by unfold instT; rw [if_neg e1, qv (map_ne hk3 hk2 (by simpa using cn))]; rfl)
   ·refine zf<|zRg<|z2 (zAd rfl rfl)<|z2 (zMi rfl)<|z6 ?_
    exact ⟨k + 1, zR4, zR1, zLe, ⟨hk2, map_take_succ hk3 hk2 hall (by simpa using cn)⟩, by omega⟩
  ·have hkn : k = (takesL x.op).length := by simp at ck; omega
   subst hkn
   rw [qm, ← hl, qm] at hall
   refine y3<|zSr<|z2 (zFF underlying33 rfl sizeOf31 rfl rfl)<|z2 (zLi isAgg31 rfl)<|zb (makes_spec _) rfl<|z2 (zMu rfl)<|z2 (zXi rfl rfl)<|z2 (zXb rfl rfl)<|z2 (zAi rfl)<|z2 (zAb rfl)<|z6<|zSr<|z2 (zMb rfl)<|z2 (yg rfl)<|z2 (zMb rfl)<|zr (s := 50) rfl (fun c1=>?_) (fun c1=>?_)
   ·refine z7 rfl rfl c1<|z7 rfl rfl c1<|z7 rfl rfl c1<|z7 rfl rfl c1<|z7 rfl rfl c1<|z7 rfl rfl c1<|z2 (zPt rfl c1 rfl)<|z2 (zAb rfl)<|z6<|zd<|zm (x := .bool _) rfl ?_
    exact jb (by unfold instT; rw [if_neg e1, qu hall]; simp_all)
   ·refine z8 rfl rfl c1<|z2 (zh isAgg26 sizeOf26 rfl rfl)<|z8 rfl rfl c1<|z2 (zFF underlying33 rfl sizeOf3 rfl rfl)<|z8 rfl rfl c1<|z2 (zLi isAgg3 rfl)<|z8 rfl rfl c1<|zb (kind_spec f x.dst (hd (by simp_all))) rfl<|z8 rfl rfl c1<|z2 (zMi rfl)<|z8 rfl rfl c1<|z2 (zw rfl rfl)<|z2 (zPf rfl c1 rfl)<|z2 (zAb rfl)<|z6<|zd<|zm (x := .bool _) rfl ?_
    exact jb (by unfold instT; rw [if_neg e1, qu hall]; simp_all)
def phiT (f : PFunc) (p : PPhi) : Bool := !(p.args.any fun v => !decide (kindV f v = kindV f p.dst))
theorem yphi1_spec (f : PFunc) (p : PPhi) (v : Int) (hv : hasV f v = true) (hd : hasV f p.dst = true) : AFun prog E 167 ([.int .i64 v] ++ [.pf (encF f), .pf (encPhi p)]) (.bool (!decide (kindV f v = kindV f p.dst))) := by
 refine zn func167 rfl (by decide) rfl<|zSr<|z2 (zAb rfl)<|z6<|za<|zt (fun j => false) (by kernel_rfl) rfl (zp (.rest _))<|zTk 0 rfl (zh isAgg26 sizeOf26 rfl rfl)<|zTk 1 rfl (zMi rfl)<|zTk 3 rfl (zh isAgg26 sizeOf26 rfl rfl)<|zTk 4 rfl (zFF underlying95 rfl sizeOf3 rfl rfl)<|zTk 5 rfl (zLi isAgg3 rfl)<|zOn 2 rfl<|zb (kind_spec _ _ (by assumption)) rfl<|z6<|zOn 6 rfl<|zb (kind_spec _ _ (by assumption)) rfl<|z6<|zTk 7 rfl (yk rfl rfl)<|zTk 8 rfl (zAb rfl)<|zDn<|zd<|zm (x := .bool _) rfl ?_
 simp_all
theorem yphi_spec (f : PFunc) (p : PPhi) (hp : okPhi p) (ha : p.args.all (hasV f) = true) (hd : hasV f p.dst = true) : AFun prog E 115 [.agg (encF f), .agg (encPhi p)] (.bool (phiT f p)) := by
 have hl1 := hp.1.lt
 refine zn func115 rfl (by decide) rfl<|zSr<|y1 (cs := _) rfl rfl rfl<|y1 (cs := _) rfl rfl rfl<|z2 (zAb rfl)<|z6<|zSr<|z2 (zFF underlying95 rfl sizeOf23 rfl rfl)<|z2 (zLf isAgg23 rfl)<|z2 (Gv.func rfl rfl)<|zb (containsFuncJ_spec p.args (by omega) (fun v hv => yphi1_spec f p v (List.all_eq_true.1 ha v hv) hd)) rfl<|z2 (yg rfl)<|z2 (zAb rfl)<|z6<|zd<|zm (x := .bool _) rfl ?_
 rfl
def termT (f : PFunc) (t : PTerm) : Bool := if t.kind = 0 then !decide (t.to0 = 0) else if t.kind = 1 then decide (kindV f t.var = 1) && !decide (t.to0 = 0) && !decide (t.to1 = 0) else decide (kindV f t.var = 0)
theorem yterm_spec (f : PFunc) (t : PTerm) (h : ¬ t.kind = 0 → hasV f t.var = true) : AFun prog E 117 [.agg (encF f), .agg (encTerm t)] (.bool (termT f t)) := by
 refine zn func117 rfl (by decide) rfl<|zSr<|y1 (cs := _) rfl rfl rfl<|y1 (cs := _) rfl rfl rfl<|z2 (zAb rfl)<|z6<|za<|zSr<|z2 (zFF underlying64 rfl sizeOf61 rfl rfl)<|z2 (zLi isAgg61 rfl)<|z6<|zi<|zSr<|z2 (zw rfl rfl)<|z2 (zAb rfl)<|z6<|zy rfl (fun c2=>?_) (fun c2=>?_)
 ·refine zSr<|z2 (zFF underlying64 rfl sizeOf62 rfl rfl)<|z2 (yx (j := 0) underlying62 sizeOf3 rfl rfl rfl (by decide) rfl)<|z2 (zLi isAgg3 rfl)<|z2 (yk rfl rfl)<|z2 (zAb rfl)<|z6<|zd<|zm (x := .bool _) rfl ?_
  exact jb (by unfold termT; simp_all)
 ·refine zSr<|z2 (zw rfl rfl)<|z2 (zAb rfl)<|z6<|zy rfl (fun c3=>?_) (fun c3=>?_)
  ·refine zSr<|z2 (zh isAgg26 sizeOf26 rfl rfl)<|z2 (zFF underlying64 rfl sizeOf3 rfl rfl)<|z2 (zLi isAgg3 rfl)<|zb (kind_spec f t.var (h (by simp_all))) rfl<|z2 (zw rfl rfl)<|z2 (zMb rfl)<|zr (s := 20) rfl (fun c4=>?_) (fun c4=>?_)
   ·refine z8 rfl rfl c4<|z2 (zFF underlying64 rfl sizeOf62 rfl rfl)<|z8 rfl rfl c4<|z2 (yx (j := 0) underlying62 sizeOf3 rfl rfl rfl (by decide) rfl)<|z8 rfl rfl c4<|z2 (zLi isAgg3 rfl)<|z8 rfl rfl c4<|z2 (yk rfl rfl)<|z2 (zPt rfl c4 rfl)<|z2 (zMb rfl)<|zr (s := 26) rfl (fun c5=>?_) (fun c5=>?_)
    ·refine z8 rfl rfl c5<|z2 (zFF underlying64 rfl sizeOf62 rfl rfl)<|z8 rfl rfl c5<|z2 (yx (j := 1) underlying62 sizeOf3 rfl rfl rfl (by decide) rfl)<|z8 rfl rfl c5<|z2 (zLi isAgg3 rfl)<|z8 rfl rfl c5<|z2 (yk rfl rfl)<|z2 (zPt rfl c5 rfl)<|z2 (zAb rfl)<|z6<|zd<|zm (x := .bool _) rfl ?_
     exact jb (by unfold termT; simp_all)
    ·refine z7 rfl rfl c5<|z7 rfl rfl c5<|z7 rfl rfl c5<|z7 rfl rfl c5<|z2 (zPf rfl c5 rfl)<|z2 (zAb rfl)<|z6<|zd<|zm (x := .bool _) rfl ?_
     exact jb (by unfold termT; simp_all)
   ·refine z7 rfl rfl c4<|z7 rfl rfl c4<|z7 rfl rfl c4<|z7 rfl rfl c4<|z2 (zPf rfl c4 rfl)<|z2 (zMb rfl)<|z7 rfl rfl rfl<|z7 rfl rfl rfl<|z7 rfl rfl rfl<|z7 rfl rfl rfl<|z2 (zPf rfl rfl rfl)<|z2 (zAb rfl)<|z6<|zd<|zm (x := .bool _) rfl ?_
    exact jb (by unfold termT; simp_all)
  ·refine zf<|zSr<|z2 (zh isAgg26 sizeOf26 rfl rfl)<|z2 (zFF underlying64 rfl sizeOf3 rfl rfl)<|z2 (zLi isAgg3 rfl)<|zb (kind_spec f t.var (h (by simp_all))) rfl<|z2 (zw rfl rfl)<|z2 (zAb rfl)<|z6<|zd<|zm (x := .bool _) rfl ?_
   exact jb (by unfold termT; simp_all)
end Go.Proofs.YtjnpcfpecilejaaGreatDoor
namespace Go.Proofs.YtjnpcfpecilejaaGreatDoor
open Go.Proofs.Tryz
abbrev Rng := Int × Int
def m64 : Int := -9223372036854775808
def M64 : Int := 9223372036854775807
def is64 (x : Int) : Prop := -9223372036854775808 ≤ x ∧ x ≤ 9223372036854775807
instance (x : Int) : Decidable (is64 x) := by unfold is64; infer_instance
def ok64 (r : Rng) : Prop := is64 r.1 ∧ is64 r.2
def noR : Rng := (1, 0)
def rMade (lo hi : Int) : Rng := if hi < lo then noR else (lo, hi)
def imin (a b : Int) : Int := if b < a then b else a
def imax (a b : Int) : Int := if a < b then b else a
def rJoin (a b : Rng) : Rng := if a.2 < a.1 then rMade b.1 b.2 else if b.2 < b.1 then a else (imin a.1 b.1, imax a.2 b.2)
def rMeet (a b : Rng) : Rng := rMade (imax a.1 b.1) (imin a.2 b.2)
def rType (t : Int) : Rng := if t = 0 then (m64, M64) else if t = 1 then (0, 1) else if t = 2 then (0, 64) else noR
theorem rMade_ok {lo hi : Int} (h1 : is64 lo) (h2 : is64 hi) : ok64 (rMade lo hi) := by
 unfold rMade; split
 ·exact ⟨by decide, by decide⟩
 ·exact ⟨h1, h2⟩
theorem imin_ok {a b : Int} (h1 : is64 a) (h2 : is64 b) : is64 (imin a b) := by unfold imin; split <;> assumption
theorem imax_ok {a b : Int} (h1 : is64 a) (h2 : is64 b) : is64 (imax a b) := by unfold imax; split <;> assumption
theorem rJoin_ok {a b : Rng} (h1 : ok64 a) (h2 : ok64 b) : ok64 (rJoin a b) := by
 unfold rJoin; split
 ·exact rMade_ok h2.1 h2.2
 ·split
  ·exact h1
  ·exact ⟨imin_ok h1.1 h2.1, imax_ok h1.2 h2.2⟩
theorem rMeet_ok {a b : Rng} (h1 : ok64 a) (h2 : ok64 b) : ok64 (rMeet a b) := rMade_ok (imax_ok h1.1 h2.1) (imin_ok h1.2 h2.2)
theorem rType_ok (t : Int) : ok64 (rType t) := by
 unfold rType; split
 ·exact ⟨by decide, by decide⟩
 ·split
  ·exact ⟨by decide, by decide⟩
  ·split
   ·exact ⟨by decide, by decide⟩
   ·exact ⟨by decide, by decide⟩
def op3 (k : Nat) (x y : Int) : Int := if k = 0 then x + y else if k = 1 then x - y else x * y
def fit3 (k : Nat) (x y : Int) : Prop := is64 (op3 k x y)
instance (k : Nat) (x y : Int) : Decidable (fit3 k x y) := by unfold fit3; infer_instance
def near3 (k : Nat) (x y : Int) : Int := if (if k = 2 then decide (x < 0) != decide (y < 0) else decide (x < 0)) then m64 else M64
def one3 (k : Nat) (x y : Int) : Int := if fit3 k x y then op3 k x y else near3 k x y
theorem near3_ok (k : Nat) (x y : Int) : is64 (near3 k x y) := by
 unfold near3
 generalize (if k = 2 then decide (x < 0) != decide (y < 0) else decide (x < 0)) = b
 cases b <;> decide
theorem one3_ok (k : Nat) (x y : Int) : is64 (one3 k x y) := by
 unfold one3; split
 ·assumption
 ·exact near3_ok k x y
def rOf (n : Int) : Rng := (n, n)
def cornR (k : Nat) (a b : Rng) : Rng := rJoin (rJoin (rJoin (rJoin noR (rOf (one3 k a.1 b.1))) (rOf (one3 k a.1 b.2))) (rOf (one3 k a.2 b.1))) (rOf (one3 k a.2 b.2))
def cornF (k : Nat) (a b : Rng) : Prop := fit3 k a.1 b.1 ∧ fit3 k a.1 b.2 ∧ fit3 k a.2 b.1 ∧ fit3 k a.2 b.2
instance (k : Nat) (a b : Rng) : Decidable (cornF k a b) := by unfold cornF; infer_instance
def hullQ (a b : Int) : Rng := if b < a then (b, a) else (a, b)
def wideQ (a b : Rng) : Rng := (if b.1 < a.1 then b.1 else a.1, if a.2 < b.2 then b.2 else a.2)
def clipQ (k : Nat) (a b : Rng) : Rng := wideQ (hullQ (one3 k a.1 b.1) (one3 k a.1 b.2)) (hullQ (one3 k a.2 b.1) (one3 k a.2 b.2))
theorem join_first (p : Int) : rJoin noR (rOf p) = (p, p) := by
 unfold rJoin rOf noR rMade
 rw [if_pos (by decide)]
 rw [if_neg (by dsimp only; omega)]
theorem join_next {lo hi : Int} (h : lo ≤ hi) (q : Int) : rJoin (lo, hi) (rOf q) = (imin lo q, imax hi q) ∧ imin lo q ≤ imax hi q := by
 unfold rJoin rOf
 rw [if_neg (by dsimp only; omega), if_neg (by dsimp only; omega)]
 refine ⟨rfl, ?_⟩
 unfold imin imax; split <;> split <;> omega
theorem join4 (p q r s : Int) : rJoin (rJoin (rJoin (rJoin noR (rOf p)) (rOf q)) (rOf r)) (rOf s) = wideQ (hullQ p q) (hullQ r s) := by
 obtain ⟨e2, h2⟩ := join_next (Int.le_refl p) q
 obtain ⟨e3, h3⟩ := join_next h2 r
 obtain ⟨e4, _⟩ := join_next h3 s
 rw [join_first, e2, e3, e4]
 unfold hullQ wideQ imin imax
 rw [Prod.ext_iff]
 by_cases c1 : q < p <;> by_cases c2 : s < r <;> simp only [c1, c2, if_true, if_false] <;> constructor <;> (repeat' split) <;> omega
theorem corn_eq (k : Nat) (a b : Rng) : cornR k a b = clipQ k a b := join4 _ _ _ _
def qJoin (a b : Rng) : Rng :=
 let a1 := if a.2 < a.1 then b else a
 let b1 := if b.2 < b.1 then a1 else b
 let lo := if b1.1 < a1.1 then b1.1 else a1.1
 let hi := if a1.2 < b1.2 then b1.2 else a1.2
 if hi < lo then noR else (lo, hi)
theorem qJoin_eq (a b : Rng) : qJoin a b = rJoin a b := by
 obtain ⟨a1, a2⟩ := a
 obtain ⟨b1, b2⟩ := b
 unfold qJoin rJoin rMade imin imax noR
 simp only [Prod.ext_iff]
 repeat' split
 all_goals (constructor <;> dsimp only at * <;> omega)
theorem mul_fit {x y : Nat} (hy : 0 < y) (l : Nat) : x ≤ l / y ↔ x * y ≤ l := Nat.le_div_iff_mul_le hy
theorem natAbs_mul_le (a b : Int) (l : Nat) : a.natAbs ≤ l / b.natAbs ↔ (b = 0 ∧ a = 0) ∨ (b ≠ 0 ∧ (a * b).natAbs ≤ l) := by
 by_cases hb : b = 0
 ·subst hb; simp
 ·rw [mul_fit (by omega), Int.natAbs_mul]; simp [hb]
theorem sign_mul {a b : Int} (ha : a ≠ 0) (hb : b ≠ 0) : (0 < a * b ↔ ((a < 0) ↔ (b < 0))) ∧ a * b ≠ 0 := by
 refine ⟨?_, Int.mul_ne_zero ha hb⟩
 rcases Int.lt_or_gt_of_ne ha with h1 | h1 <;> rcases Int.lt_or_gt_of_ne hb with h2 | h2
 ·have := Int.mul_pos_of_neg_of_neg h1 h2; simp [this, h1, h2]
 ·have := Int.mul_neg_of_neg_of_pos h1 h2
  constructor
  ·intro h; omega
  ·intro h; have := h.1 h1; omega
 ·have := Int.mul_neg_of_pos_of_neg h1 h2
  constructor
  ·intro h; omega
  ·intro h; have := h.2 h2; omega
 ·have := Int.mul_pos h1 h2
  constructor
  ·intro _; constructor <;> intro h <;> omega
  ·intro _; exact this
theorem fitMul (a b : Int) (ha : a ≠ 0) (hb : b ≠ 0) : (a.natAbs ≤ (if decide (a < 0) = decide (b < 0) then 9223372036854775807 else 9223372036854775808) / b.natAbs) ↔ fit3 2 a b := by
 have hs := sign_mul ha hb
 rw [natAbs_mul_le]
 unfold fit3 is64
 have e : op3 2 a b = a * b := rfl
 rw [e]
 simp only [hb, false_and, false_or, ne_eq, not_false_eq_true, true_and]
 by_cases h : decide (a < 0) = decide (b < 0)
 ·rw [if_pos h]
  have : (a < 0) ↔ (b < 0) := by simpa using h
  have h1 := hs.1.2 this
  omega
 ·rw [if_neg h]
  have : ¬ ((a < 0) ↔ (b < 0)) := by simpa using h
  have h1 : ¬ 0 < a * b := fun h2 => this (hs.1.1 h2)
  omega
end Go.Proofs.YtjnpcfpecilejaaGreatDoor
namespace Go.Proofs.YtjnpcfpecilejaaGreatDoor
open Go.Proofs.Tryz
def rSub (r s : Rng) : Prop := r.2 < r.1 ∨ (s.1 ≤ r.1 ∧ r.2 ≤ s.2)
def rIn (x : Int) (r : Rng) : Prop := r.1 ≤ x ∧ x ≤ r.2
theorem rSub.refl (r : Rng) : rSub r r := .inr ⟨Int.le_refl _, Int.le_refl _⟩
theorem rSub.trans {r s t : Rng} (h : rSub r s) (k : rSub s t) : rSub r t := by
 rcases h with h | h
 ·exact .inl h
 ·rcases k with k | k
  ·exact .inl (by omega)
  ·exact .inr (by omega)
def cl64 (x : Int) : Int := if x < m64 then m64 else if M64 < x then M64 else x
theorem cl64_mono {x y : Int} (h : x ≤ y) : cl64 x ≤ cl64 y := by unfold cl64 m64 M64; (repeat' split) <;> omega
theorem one3_clamp {k : Nat} {x y : Int} (h2 : k ≤ 2) (hx : is64 x) (hy : is64 y) : one3 k x y = cl64 (op3 k x y) := by
 unfold one3
 by_cases h : fit3 k x y
 ·rw [if_pos h]
  unfold fit3 is64 at h; unfold cl64 m64 M64
  rw [if_neg (by omega), if_neg (by omega)]
 ·rw [if_neg h]
  unfold near3
  unfold fit3 at h
  unfold is64 at hx hy h
  by_cases hk : k = 2
  ·subst hk
   have e : op3 2 x y = x * y := rfl
   rw [e] at h ⊢
   simp only [if_true]
   have hx0 : x ≠ 0 := fun e => by subst e; simp at h
   have hy0 : y ≠ 0 := fun e => by subst e; simp at h
   have hs := sign_mul hx0 hy0
   by_cases c : (x < 0) ↔ (y < 0)
   ·have h1 := hs.1.2 c
    have : (decide (x < 0) != decide (y < 0)) = false := by simp [c]
    rw [this]
    unfold cl64 m64 M64
    rw [if_neg (by simp), if_neg (by omega), if_pos (by omega)]
   ·have h1 : ¬ 0 < x * y := fun h2 => c (hs.1.1 h2)
    have : (decide (x < 0) != decide (y < 0)) = true := by
     by_cases c1 : x < 0 <;> by_cases c2 : y < 0 <;> simp_all
    rw [this]
    unfold cl64 m64 M64
    rw [if_pos rfl, if_pos (by omega)]
  ·rw [if_neg hk]
   unfold op3 at h ⊢
   unfold cl64 m64 M64
   by_cases h0 : k = 0
   ·rw [if_pos h0] at h ⊢
    by_cases c : x < 0
    ·simp only [qu c, if_true]; rw [if_pos (by omega)]
    ·simp only [qv c]; rw [if_neg (by simp), if_neg (by omega), if_pos (by omega)]
   ·have h1 : k = 1 := by omega
    rw [if_neg h0, if_pos h1] at h ⊢
    by_cases c : x < 0
    ·simp only [qu c, if_true]; rw [if_pos (by omega)]
    ·simp only [qv c]; rw [if_neg (by simp), if_neg (by omega), if_pos (by omega)]
def btw (x a b : Int) : Prop := (a ≤ x ∧ x ≤ b) ∨ (b ≤ x ∧ x ≤ a)
theorem btw_cl {x a b : Int} (h : btw x a b) : btw (cl64 x) (cl64 a) (cl64 b) := by
 rcases h with ⟨h1, h2⟩ | ⟨h1, h2⟩
 ·exact .inl ⟨cl64_mono h1, cl64_mono h2⟩
 ·exact .inr ⟨cl64_mono h1, cl64_mono h2⟩
theorem btw_l {k : Nat} {x a b y : Int} (h1 : a ≤ x) (h2 : x ≤ b) : btw (op3 k x y) (op3 k a y) (op3 k b y) := by
 unfold op3 btw
 split
 ·omega
 ·split
  ·omega
  ·rcases Int.le_total 0 y with hy | hy
   ·exact .inl ⟨Int.mul_le_mul_of_nonneg_right h1 hy, Int.mul_le_mul_of_nonneg_right h2 hy⟩
   ·exact .inr ⟨Int.mul_le_mul_of_nonpos_right h2 hy, Int.mul_le_mul_of_nonpos_right h1 hy⟩
theorem btw_r {k : Nat} {x a b y : Int} (h1 : a ≤ y) (h2 : y ≤ b) : btw (op3 k x y) (op3 k x a) (op3 k x b) := by
 unfold op3 btw
 split
 ·omega
 ·split
  ·omega
  ·rcases Int.le_total 0 x with hx | hx
   ·exact .inl ⟨Int.mul_le_mul_of_nonneg_left h1 hx, Int.mul_le_mul_of_nonneg_left h2 hx⟩
   ·exact .inr ⟨Int.mul_le_mul_of_nonpos_left hx h2, Int.mul_le_mul_of_nonpos_left hx h1⟩
theorem hull_of {p q r s x u v : Int} (hu : btw u p q) (hv : btw v r s) (hx : btw x u v) : rIn x (wideQ (hullQ p q) (hullQ r s)) := by
 unfold rIn wideQ hullQ btw at *
 by_cases c1 : q < p <;> by_cases c2 : s < r <;> simp only [c1, c2, if_true, if_false] <;> (repeat' split) <;> omega
theorem clip_in {k : Nat} {a b : Rng} {x y : Int} (hk : k ≤ 2) (ha : ok64 a) (hb : ok64 b) (hx : rIn x a) (hy : rIn y b) : rIn (cl64 (op3 k x y)) (clipQ k a b) := by
 unfold clipQ
 rw [one3_clamp hk ha.1 hb.1, one3_clamp hk ha.1 hb.2, one3_clamp hk ha.2 hb.1, one3_clamp hk ha.2 hb.2]
 exact hull_of (btw_cl (btw_r hy.1 hy.2)) (btw_cl (btw_r hy.1 hy.2)) (btw_cl (btw_l hx.1 hx.2))
theorem hull_least {p q r s lo hi : Int} (h1 : lo ≤ p ∧ p ≤ hi) (h2 : lo ≤ q ∧ q ≤ hi) (h3 : lo ≤ r ∧ r ≤ hi) (h4 : lo ≤ s ∧ s ≤ hi) : lo ≤ (wideQ (hullQ p q) (hullQ r s)).1 ∧ (wideQ (hullQ p q) (hullQ r s)).2 ≤ hi := by
 unfold wideQ hullQ
 by_cases c1 : q < p <;> by_cases c2 : s < r <;> simp only [c1, c2, if_true, if_false] <;> (repeat' split) <;> omega
theorem clip_mono {k : Nat} {a b a' b' : Rng} (hk : k ≤ 2) (ha : ok64 a) (hb : ok64 b) (ha' : ok64 a') (hb' : ok64 b') (na : a.1 ≤ a.2) (nb : b.1 ≤ b.2) (sa : a'.1 ≤ a.1 ∧ a.2 ≤ a'.2) (sb : b'.1 ≤ b.1 ∧ b.2 ≤ b'.2) : rSub (clipQ k a b) (clipQ k a' b') := by
 right
 have h : ∀ x y, is64 x → is64 y → rIn x a → rIn y b → (clipQ k a' b').1 ≤ one3 k x y ∧ one3 k x y ≤ (clipQ k a' b').2 := fun x y hx hy h1 h2 => by
  rw [one3_clamp hk hx hy]
  exact clip_in hk ha' hb' ⟨by have := h1.1; omega, by have := h1.2; omega⟩ ⟨by have := h2.1; omega, by have := h2.2; omega⟩
 have l1 : rIn a.1 a := ⟨Int.le_refl _, na⟩
 have l2 : rIn a.2 a := ⟨na, Int.le_refl _⟩
 have r1 : rIn b.1 b := ⟨Int.le_refl _, nb⟩
 have r2 : rIn b.2 b := ⟨nb, Int.le_refl _⟩
 exact hull_least (h _ _ ha.1 hb.1 l1 r1) (h _ _ ha.1 hb.2 l1 r2) (h _ _ ha.2 hb.1 l2 r1) (h _ _ ha.2 hb.2 l2 r2)
theorem cornF_mono {k : Nat} {a b a' b' : Rng} (na : a.1 ≤ a.2) (nb : b.1 ≤ b.2) (sa : a'.1 ≤ a.1 ∧ a.2 ≤ a'.2) (sb : b'.1 ≤ b.1 ∧ b.2 ≤ b'.2) (h : cornF k a' b') : cornF k a b := by
 obtain ⟨h1, h2, h3, h4⟩ := h
 have key : ∀ x y, a'.1 ≤ x → x ≤ a'.2 → b'.1 ≤ y → y ≤ b'.2 → fit3 k x y := fun x y g1 g2 g3 g4 => by
  have e1 := btw_r (k := k) (x := a'.1) g3 g4
  have e2 := btw_r (k := k) (x := a'.2) g3 g4
  have e3 := btw_l (k := k) (y := y) g1 g2
  unfold fit3 is64 at *
  unfold btw at e1 e2 e3
  omega
 exact ⟨key _ _ (by omega) (by omega) (by omega) (by omega), key _ _ (by omega) (by omega) (by omega) (by omega), key _ _ (by omega) (by omega) (by omega) (by omega), key _ _ (by omega) (by omega) (by omega) (by omega)⟩
end Go.Proofs.YtjnpcfpecilejaaGreatDoor
namespace Go.Proofs.YtjnpcfpecilejaaGreatDoor
open Go.Proofs.Tryz
theorem tdiv_anti {x y c : Int} (hx : 0 ≤ x) (hc : 0 < c) (h : c ≤ y) : 0 ≤ x.tdiv y ∧ x.tdiv y ≤ x.tdiv c := by
 obtain ⟨n, rfl⟩ := Int.eq_ofNat_of_zero_le hx
 obtain ⟨m, rfl⟩ := Int.eq_ofNat_of_zero_le (by omega : 0 ≤ y)
 obtain ⟨k, rfl⟩ := Int.eq_ofNat_of_zero_le (by omega : 0 ≤ c)
 have e1 : ((n : Int).tdiv (m : Int)) = ((n / m : Nat) : Int) := rfl
 have e2 : ((n : Int).tdiv (k : Int)) = ((n / k : Nat) : Int) := rfl
 rw [e1, e2]
 have := Nat.div_le_div_left (a := n) (by omega : k ≤ m) (by omega : 0 < k)
 exact ⟨Int.natCast_nonneg _, Int.ofNat_le.2 this⟩
theorem dbtw_l {x a b y : Int} (hy : y ≠ 0) (h1 : a ≤ x) (h2 : x ≤ b) : btw (x.tdiv y) (a.tdiv y) (b.tdiv y) := by
 rcases Int.lt_or_gt_of_ne hy with h | h
 ·right
  have e : ∀ z : Int, z.tdiv y = -(z.tdiv (-y)) := fun z => by rw [Int.tdiv_neg]; omega
  rw [e x, e a, e b]
  have g1 := Int.tdiv_le_tdiv (c := -y) (by omega) h1
  have g2 := Int.tdiv_le_tdiv (c := -y) (by omega) h2
  omega
 ·exact .inl ⟨Int.tdiv_le_tdiv h h1, Int.tdiv_le_tdiv h h2⟩
theorem dbtw_pos {x y c d : Int} (hc : 0 < c) (h1 : c ≤ y) (h2 : y ≤ d) : btw (x.tdiv y) (x.tdiv c) (x.tdiv d) := by
 rcases Int.le_total 0 x with hx | hx
 ·right
  exact ⟨(tdiv_anti hx (by omega) h2).2, (tdiv_anti hx hc h1).2⟩
 ·left
  have e : ∀ z : Int, x.tdiv z = -((-x).tdiv z) := fun z => by rw [Int.neg_tdiv]; omega
  rw [e y, e c, e d]
  have g1 := (tdiv_anti (x := -x) (by omega) (by omega) h2).2
  have g2 := (tdiv_anti (x := -x) (by omega) hc h1).2
  omega
theorem dbtw_neg {x y c d : Int} (hd : d < 0) (h1 : c ≤ y) (h2 : y ≤ d) : btw (x.tdiv y) (x.tdiv c) (x.tdiv d) := by
 have e : ∀ z : Int, x.tdiv z = -(x.tdiv (-z)) := fun z => by rw [Int.tdiv_neg]; omega
 rw [e y, e c, e d]
 have := dbtw_pos (x := x) (y := -y) (c := -d) (d := -c) (by omega) (by omega) (by omega)
 unfold btw at *
 omega
def quoQ (a b : Rng) : Rng := wideQ (hullQ (a.1.tdiv b.1) (a.1.tdiv b.2)) (hullQ (a.2.tdiv b.1) (a.2.tdiv b.2))
theorem quo_in {a b : Rng} {x y : Int} (hb : 0 < b.1 ∨ b.2 < 0) (hx : rIn x a) (hy : rIn y b) : rIn (x.tdiv y) (quoQ a b) := by
 have hy0 : y ≠ 0 := by
  unfold rIn at hy
  rcases hb with h | h <;> omega
 have key : ∀ x : Int, btw (x.tdiv y) (x.tdiv b.1) (x.tdiv b.2) := fun x => by
  rcases hb with h | h
  ·exact dbtw_pos h hy.1 hy.2
  ·exact dbtw_neg h hy.1 hy.2
 exact hull_of (key a.1) (key a.2) (dbtw_l hy0 hx.1 hx.2)
theorem quo_least {a b : Rng} {lo hi : Int} (h : ∀ x y, rIn x a → rIn y b → lo ≤ x.tdiv y ∧ x.tdiv y ≤ hi) (na : a.1 ≤ a.2) (nb : b.1 ≤ b.2) : lo ≤ (quoQ a b).1 ∧ (quoQ a b).2 ≤ hi := by
 have l1 : rIn a.1 a := ⟨Int.le_refl _, na⟩
 have l2 : rIn a.2 a := ⟨na, Int.le_refl _⟩
 have r1 : rIn b.1 b := ⟨Int.le_refl _, nb⟩
 have r2 : rIn b.2 b := ⟨nb, Int.le_refl _⟩
 exact hull_least (h _ _ l1 r1) (h _ _ l1 r2) (h _ _ l2 r1) (h _ _ l2 r2)
def divQ (a b : Rng) : Rng :=
 if a.1 = m64 ∧ b.1 ≤ -1 ∧ -1 ≤ b.2 then (m64, M64) else
 if b.1 = 0 ∧ b.2 = 0 then noR else
 if 0 ≤ b.1 then quoQ a (if b.1 = 0 then 1 else b.1, b.2) else
 if b.2 ≤ 0 then quoQ a (b.1, if b.2 = 0 then -1 else b.2) else wideQ (quoQ a (b.1, -1)) (quoQ a (1, b.2))
theorem div_in {a b : Rng} {x y : Int} (hx : rIn x a) (hy : rIn y b) (h0 : y ≠ 0) (hno : ¬ (a.1 = m64 ∧ b.1 ≤ -1 ∧ -1 ≤ b.2)) : rIn (x.tdiv y) (divQ a b) := by
 unfold divQ
 unfold rIn at hy
 rw [if_neg hno, if_neg (by omega)]
 by_cases h1 : 0 ≤ b.1
 ·rw [if_pos h1]
  exact quo_in (.inl (by dsimp only; split <;> omega)) hx ⟨by dsimp only; split <;> omega, by dsimp only; omega⟩
 ·rw [if_neg h1]
  by_cases h2 : b.2 ≤ 0
  ·rw [if_pos h2]
   exact quo_in (.inr (by dsimp only; split <;> omega)) hx ⟨by dsimp only; omega, by dsimp only; split <;> omega⟩
  ·rw [if_neg h2]
   rcases Int.lt_or_gt_of_ne h0 with h | h
   ·have := quo_in (a := a) (b := (b.1, -1)) (x := x) (y := y) (.inr (by dsimp only; omega)) hx ⟨by dsimp only; omega, by dsimp only; omega⟩
    unfold rIn wideQ at *
    (repeat' split) <;> omega
   ·have := quo_in (a := a) (b := (1, b.2)) (x := x) (y := y) (.inl (by dsimp only; omega)) hx ⟨by dsimp only; omega, by dsimp only; omega⟩
    unfold rIn wideQ at *
    (repeat' split) <;> omega
theorem div_least {a b : Rng} {lo hi : Int} (h : ∀ x y, rIn x a → rIn y b → y ≠ 0 → lo ≤ x.tdiv y ∧ x.tdiv y ≤ hi) (na : a.1 ≤ a.2) (nb : b.1 ≤ b.2) (hno : ¬ (a.1 = m64 ∧ b.1 ≤ -1 ∧ -1 ≤ b.2)) : (divQ a b).2 < (divQ a b).1 ∨ (lo ≤ (divQ a b).1 ∧ (divQ a b).2 ≤ hi) := by
 unfold divQ
 rw [if_neg hno]
 by_cases hz : b.1 = 0 ∧ b.2 = 0
 ·rw [if_pos hz]; left; decide
 ·rw [if_neg hz]
  right
  by_cases h1 : 0 ≤ b.1
  ·rw [if_pos h1]
   refine quo_least (fun x y hx hy => ?_) na (by dsimp only; split <;> omega)
   unfold rIn at hy
   dsimp only at hy
   exact h x y hx ⟨by split at hy <;> omega, hy.2⟩ (by split at hy <;> omega)
  ·rw [if_neg h1]
   by_cases h2 : b.2 ≤ 0
   ·rw [if_pos h2]
    refine quo_least (fun x y hx hy => ?_) na (by dsimp only; split <;> omega)
    unfold rIn at hy
    dsimp only at hy
    exact h x y hx ⟨hy.1, by split at hy <;> omega⟩ (by split at hy <;> omega)
   ·rw [if_neg h2]
    have g1 := quo_least (a := a) (b := (b.1, -1)) (lo := lo) (hi := hi) (fun x y hx hy => by
     unfold rIn at hy; dsimp only at hy
     exact h x y hx ⟨hy.1, by omega⟩ (by omega)) na (by dsimp only; omega)
    have g2 := quo_least (a := a) (b := (1, b.2)) (lo := lo) (hi := hi) (fun x y hx hy => by
     unfold rIn at hy; dsimp only at hy
     exact h x y hx ⟨by omega, hy.2⟩ (by omega)) na (by dsimp only; omega)
    unfold wideQ
    constructor <;> split <;> omega
theorem div_ok {a b : Rng} {x y : Int} (ha : ok64 a) (hb : ok64 b) (hx : rIn x a) (hy : rIn y b) (hno : ¬ (a.1 = m64 ∧ b.1 ≤ -1 ∧ -1 ≤ b.2)) (h0 : y ≠ 0) : is64 (x.tdiv y) := by
 have h1 := Int.natAbs_tdiv_le_natAbs x y
 unfold ok64 is64 at *
 unfold rIn at *
 unfold m64 at hno
 by_cases hm : x = -9223372036854775808
 ·have hy1 : y ≠ -1 := by
   intro e
   apply hno
   omega
  subst hm
  rcases Int.lt_or_gt_of_ne h0 with h | h
  ·have := (tdiv_anti (x := 9223372036854775808) (y := -y) (c := 2) (by omega) (by omega) (by omega))
   have e : (-9223372036854775808 : Int).tdiv y = (9223372036854775808 : Int).tdiv (-y) := by
    rw [Int.tdiv_neg, ← Int.neg_tdiv]
   rw [e]
   have e2 : (9223372036854775808 : Int).tdiv 2 = 4611686018427387904 := by decide
   rw [e2] at this
   omega
  ·have := (tdiv_anti (x := 9223372036854775808) (y := y) (c := 1) (by omega) (by omega) (by omega)).1
   have e : (-9223372036854775808 : Int).tdiv y = -((9223372036854775808 : Int).tdiv y) := by rw [← Int.neg_tdiv]
   omega
 ·omega
theorem div_mono {a b a' b' : Rng} (ha : ok64 a) (hb : ok64 b) (na : a.1 ≤ a.2) (nb : b.1 ≤ b.2) (sa : a'.1 ≤ a.1 ∧ a.2 ≤ a'.2) (sb : b'.1 ≤ b.1 ∧ b.2 ≤ b'.2) (ha' : m64 ≤ a'.1) : rSub (divQ a b) (divQ a' b') := by
 by_cases hno' : a'.1 = m64 ∧ b'.1 ≤ -1 ∧ -1 ≤ b'.2
 ·have e : divQ a' b' = (m64, M64) := by unfold divQ; rw [if_pos hno']
  rw [e]
  by_cases hno : a.1 = m64 ∧ b.1 ≤ -1 ∧ -1 ≤ b.2
  ·have e : divQ a b = (m64, M64) := by unfold divQ; rw [if_pos hno]
   rw [e]; exact rSub.refl _
  ·exact div_least (fun x y hx hy h0 => div_ok ha hb hx hy hno h0) na nb hno
 ·have hno : ¬ (a.1 = m64 ∧ b.1 ≤ -1 ∧ -1 ≤ b.2) := fun h => hno' (by unfold m64 at *; omega)
  exact div_least (fun x y hx hy h0 => div_in (a := a') (b := b') ⟨by have := hx.1; omega, by have := hx.2; omega⟩ ⟨by have := hy.1; omega, by have := hy.2; omega⟩ h0 hno') na nb hno
end Go.Proofs.YtjnpcfpecilejaaGreatDoor
namespace Go.Proofs.YtjnpcfpecilejaaGreatDoor
open Go.Proofs.Tryz
def far (b : Rng) : Int := imax (if b.1 < 0 then -b.1 else b.1) (if b.2 < 0 then -b.2 else b.2) - 1
def remQ (a b : Rng) : Rng := if b.1 = 0 ∧ b.2 = 0 then noR else (if a.1 < 0 then imax (-(far b)) a.1 else 0, if 0 < a.2 then imin (far b) a.2 else 0)
theorem rem_mono {a b a' b' : Rng} (na : a.1 ≤ a.2) (nb : b.1 ≤ b.2) (sa : a'.1 ≤ a.1 ∧ a.2 ≤ a'.2) (sb : b'.1 ≤ b.1 ∧ b.2 ≤ b'.2) : rSub (remQ a b) (remQ a' b') := by
 unfold remQ
 by_cases h : b.1 = 0 ∧ b.2 = 0
 ·rw [if_pos h]; left; decide
 ·rw [if_neg h]
  by_cases h' : b'.1 = 0 ∧ b'.2 = 0
  ·exfalso; apply h; omega
  ·rw [if_neg h']
   right
   have hk : far b ≤ far b' := by unfold far imax; (repeat' split) <;> omega
   have h0 : 0 ≤ far b := by unfold far imax; (repeat' split) <;> omega
   constructor
   ·dsimp only; unfold imax; (repeat' split) <;> omega
   ·dsimp only; unfold imin; (repeat' split) <;> omega
def truQ (no yes : Bool) : Rng := (if no then 0 else 1, if yes then 1 else 0)
theorem tru_mono {n y n' y' : Bool} (h1 : n = true → n' = true) (h2 : y = true → y' = true) : rSub (truQ n y) (truQ n' y') := by
 right
 cases n <;> cases y <;> cases n' <;> cases y' <;> simp_all [truQ]
def eqQ (a b : Rng) : Rng := truQ (!(decide (a.1 = a.2) && decide (a = b))) (!decide ((rMeet a b).2 < (rMeet a b).1))
def ltQ (a b : Rng) : Rng := truQ (decide (b.1 ≤ a.2)) (decide (a.1 < b.2))
def leQ (a b : Rng) : Rng := truQ (decide (b.1 < a.2)) (decide (a.1 ≤ b.2))
def notQ (a : Rng) : Rng := truQ (decide (a.2 = 1)) (decide (a.1 = 0))
def andQ (a b : Rng) : Rng := truQ (decide (a.1 = 0) || decide (b.1 = 0)) (decide (a.2 = 1) && decide (b.2 = 1))
theorem meet_ne {a b : Rng} : (rMeet a b).2 < (rMeet a b).1 ↔ imin a.2 b.2 < imax a.1 b.1 := by
 unfold rMeet rMade
 split
 ·rename_i h; exact ⟨fun _ => h, fun _ => by decide⟩
 ·exact Iff.rfl
theorem eq_mono {a b a' b' : Rng} (na : a.1 ≤ a.2) (nb : b.1 ≤ b.2) (sa : a'.1 ≤ a.1 ∧ a.2 ≤ a'.2) (sb : b'.1 ≤ b.1 ∧ b.2 ≤ b'.2) : rSub (eqQ a b) (eqQ a' b') := by
 refine tru_mono (fun h=>?_) (fun h=>?_)
 ·simp only [Bool.not_eq_true', Bool.and_eq_false_iff, decide_eq_false_iff_not, Prod.ext_iff] at h ⊢
  omega
 ·simp only [Bool.not_eq_true', decide_eq_false_iff_not, meet_ne] at h ⊢
  unfold imin imax at *
  (repeat' split at h) <;> (repeat' split) <;> omega
theorem lt_mono {a b a' b' : Rng} (na : a.1 ≤ a.2) (nb : b.1 ≤ b.2) (sa : a'.1 ≤ a.1 ∧ a.2 ≤ a'.2) (sb : b'.1 ≤ b.1 ∧ b.2 ≤ b'.2) : rSub (ltQ a b) (ltQ a' b') :=
 tru_mono (fun h => by simp only [qy] at *; omega) (fun h => by simp only [qy] at *; omega)
theorem le_mono {a b a' b' : Rng} (na : a.1 ≤ a.2) (nb : b.1 ≤ b.2) (sa : a'.1 ≤ a.1 ∧ a.2 ≤ a'.2) (sb : b'.1 ≤ b.1 ∧ b.2 ≤ b'.2) : rSub (leQ a b) (leQ a' b') :=
 tru_mono (fun h => by simp only [qy] at *; omega) (fun h => by simp only [qy] at *; omega)
theorem not_mono {a a' : Rng} (na : a.1 ≤ a.2) (sa : a'.1 ≤ a.1 ∧ a.2 ≤ a'.2) (h0 : 0 ≤ a'.1) (h1 : a'.2 ≤ 1) : rSub (notQ a) (notQ a') :=
 tru_mono (fun h => by simp only [qy] at *; omega) (fun h => by simp only [qy] at *; omega)
theorem and_mono {a b a' b' : Rng} (na : a.1 ≤ a.2) (nb : b.1 ≤ b.2) (sa : a'.1 ≤ a.1 ∧ a.2 ≤ a'.2) (sb : b'.1 ≤ b.1 ∧ b.2 ≤ b'.2) (h0 : 0 ≤ a'.1) (h1 : a'.2 ≤ 1) (g0 : 0 ≤ b'.1) (g1 : b'.2 ≤ 1) : rSub (andQ a b) (andQ a' b') :=
 tru_mono (fun h => by simp only [Bool.or_eq_true, qy] at *; omega) (fun h => by simp only [qw, qy] at *; omega)
theorem meet_mono {a b a' b' : Rng} (sa : rSub a a') (sb : rSub b b') : rSub (rMeet a b) (rMeet a' b') := by
 unfold rSub at *
 by_cases h : (rMeet a b).2 < (rMeet a b).1
 ·exact .inl h
 ·right
  rw [meet_ne] at h
  have hn' : ¬ imin a'.2 b'.2 < imax a'.1 b'.1 := by unfold imin imax at *; (repeat' split at h) <;> (repeat' split) <;> omega
  unfold rMeet rMade
  rw [if_neg h, if_neg hn']
  dsimp only
  unfold imin imax at *
  constructor <;> (repeat' split) <;> (repeat' split at h) <;> omega
def cutQ (num : Int) (a b : Rng) : Rng :=
 if num = 0 then (if b.2 = m64 then noR else rMeet a (m64, b.2 - 1)) else
 if num = 1 then rMeet a (m64, b.2) else
 if num = 2 then rMeet a b else
 if num = 3 then rMeet a (b.1, M64) else
 if num = 4 then (if b.1 = M64 then noR else rMeet a (b.1 + 1, M64)) else a
theorem cut_mono {num : Int} {a b a' b' : Rng} (hb : ok64 b) (hb' : ok64 b') (nb : b.1 ≤ b.2) (sa : rSub a a') (sb : b'.1 ≤ b.1 ∧ b.2 ≤ b'.2) : rSub (cutQ num a b) (cutQ num a' b') := by
 have hb1 := hb.1; have hb2 := hb.2; have hb3 := hb'.1; have hb4 := hb'.2
 unfold is64 at hb1 hb2 hb3 hb4
 unfold cutQ
 by_cases h0 : num = 0
 ·rw [if_pos h0, if_pos h0]
  by_cases c : b.2 = m64
  ·rw [if_pos c]; left; decide
  ·rw [if_neg c, if_neg (by unfold m64 at *; omega)]
   exact meet_mono sa (.inr ⟨Int.le_refl _, by dsimp only; omega⟩)
 ·rw [if_neg h0, if_neg h0]
  by_cases h1 : num = 1
  ·rw [if_pos h1, if_pos h1]; exact meet_mono sa (.inr ⟨Int.le_refl _, by dsimp only; omega⟩)
  ·rw [if_neg h1, if_neg h1]
   by_cases h2 : num = 2
   ·rw [if_pos h2, if_pos h2]; exact meet_mono sa (.inr sb)
   ·rw [if_neg h2, if_neg h2]
    by_cases h3 : num = 3
    ·rw [if_pos h3, if_pos h3]; exact meet_mono sa (.inr ⟨by dsimp only; omega, Int.le_refl _⟩)
    ·rw [if_neg h3, if_neg h3]
     by_cases h4 : num = 4
     ·rw [if_pos h4, if_pos h4]
      by_cases c : b.1 = M64
      ·rw [if_pos c]; left; decide
      ·rw [if_neg c, if_neg (by unfold M64 at *; omega)]
       exact meet_mono sa (.inr ⟨by dsimp only; omega, Int.le_refl _⟩)
     ·rw [if_neg h4, if_neg h4]; exact sa
theorem join_mono {a b a' b' : Rng} (sa : rSub a a') (sb : rSub b b') : rSub (rJoin a b) (rJoin a' b') := by
 rw [← qJoin_eq, ← qJoin_eq]
 unfold rSub qJoin noR at *
 dsimp only
 by_cases c1 : a.2 < a.1 <;> by_cases c2 : b.2 < b.1 <;> by_cases c3 : a'.2 < a'.1 <;> by_cases c4 : b'.2 < b'.1 <;> simp only [c1, c2, c3, c4, if_true, if_false] <;> (repeat' split) <;> dsimp only <;> omega
end Go.Proofs.YtjnpcfpecilejaaGreatDoor
namespace Go.Proofs.YtjnpcfpecilejaaGreatDoor
open Go.Proofs.Tryz
def allR : Rng := (m64, M64)
def sumQ (k : Nat) (a b : Rng) (chk : Bool) : Rng := if chk = true ∨ cornF k a b then clipQ k a b else allR
def ra (rs : List Rng) (i : Nat) : Rng := (rs[i]?).getD (0, 0)
def instQ (op num : Int) (rs : List Rng) (chk : Bool) : Rng :=
 if op = 0 then rOf num else if op = 1 ∨ op = 12 then ra rs 0 else
 if op = 2 then sumQ 0 (ra rs 0) (ra rs 1) chk else if op = 3 then sumQ 1 (ra rs 0) (ra rs 1) chk else if op = 4 then sumQ 2 (ra rs 0) (ra rs 1) chk else
 if op = 5 then divQ (ra rs 0) (ra rs 1) else if op = 6 then remQ (ra rs 0) (ra rs 1) else
 if op = 7 then eqQ (ra rs 0) (ra rs 1) else if op = 8 then ltQ (ra rs 0) (ra rs 1) else if op = 9 then leQ (ra rs 0) (ra rs 1) else
 if op = 10 then notQ (ra rs 0) else if op = 11 then andQ (ra rs 0) (ra rs 1) else
 if op = 15 then rMeet (ra rs 0) (0, 64) else if op = 16 then rOf 0 else
 if op = 25 then cutQ num (ra rs 0) (ra rs 1) else if op = 26 then cutQ 0 (rMeet (ra rs 0) (0, M64)) (ra rs 1) else allR
structure Less (a a' : Rng) : Prop where
 ok : ok64 a
 ok' : ok64 a'
 ne : a.1 ≤ a.2
 sub : a'.1 ≤ a.1 ∧ a.2 ≤ a'.2
theorem Less.rsub {a a' : Rng} (h : Less a a') : rSub a a' := .inr h.sub
theorem Less.zero : Less (0, 0) (0, 0) := ⟨⟨by decide, by decide⟩, ⟨by decide, by decide⟩, by decide, by decide, by decide⟩
theorem sum_mono {k : Nat} {a b a' b' : Rng} {chk : Bool} (hk : k ≤ 2) (ha : Less a a') (hb : Less b b') : rSub (sumQ k a b chk) (sumQ k a' b' chk) := by
 unfold sumQ
 by_cases h' : chk = true ∨ cornF k a' b'
 ·have h : chk = true ∨ cornF k a b := h'.imp id fun h => cornF_mono ha.ne hb.ne ha.sub hb.sub h
  rw [if_pos h', if_pos h]
  exact clip_mono hk ha.ok hb.ok ha.ok' hb.ok' ha.ne hb.ne ha.sub hb.sub
 ·rw [if_neg h']
  right
  by_cases h : chk = true ∨ cornF k a b
  ·rw [if_pos h]
   have g : ∀ x y, is64 (one3 k x y) := fun x y => one3_ok k x y
   exact hull_least (g _ _) (g _ _) (g _ _) (g _ _)
  ·rw [if_neg h]; exact ⟨Int.le_refl _, Int.le_refl _⟩
theorem inst_mono {op num : Int} {rs rs' : List Rng} {chk : Bool} (h0 : Less (ra rs 0) (ra rs' 0)) (h1 : Less (ra rs 1) (ra rs' 1))
  (hb : op = 10 ∨ op = 11 → 0 ≤ (ra rs' 0).1 ∧ (ra rs' 0).2 ≤ 1) (hb1 : op = 11 → 0 ≤ (ra rs' 1).1 ∧ (ra rs' 1).2 ≤ 1) : rSub (instQ op num rs chk) (instQ op num rs' chk) := by
 unfold instQ
 by_cases c0 : op = 0
 ·rw [if_pos c0, if_pos c0]; exact rSub.refl _
 rw [if_neg c0, if_neg c0]
 by_cases c1 : op = 1 ∨ op = 12
 ·rw [if_pos c1, if_pos c1]; exact h0.rsub
 rw [if_neg c1, if_neg c1]
 by_cases c2 : op = 2
 ·rw [if_pos c2, if_pos c2]; exact sum_mono (by omega) h0 h1
 rw [if_neg c2, if_neg c2]
 by_cases c3 : op = 3
 ·rw [if_pos c3, if_pos c3]; exact sum_mono (by omega) h0 h1
 rw [if_neg c3, if_neg c3]
 by_cases c4 : op = 4
 ·rw [if_pos c4, if_pos c4]; exact sum_mono (by omega) h0 h1
 rw [if_neg c4, if_neg c4]
 by_cases c5 : op = 5
 ·rw [if_pos c5, if_pos c5]; exact div_mono h0.ok h1.ok h0.ne h1.ne h0.sub h1.sub h0.ok'.1.1
 rw [if_neg c5, if_neg c5]
 by_cases c6 : op = 6
 ·rw [if_pos c6, if_pos c6]; exact rem_mono h0.ne h1.ne h0.sub h1.sub
 rw [if_neg c6, if_neg c6]
 by_cases c7 : op = 7
 ·rw [if_pos c7, if_pos c7]; exact eq_mono h0.ne h1.ne h0.sub h1.sub
 rw [if_neg c7, if_neg c7]
 by_cases c8 : op = 8
 ·rw [if_pos c8, if_pos c8]; exact lt_mono h0.ne h1.ne h0.sub h1.sub
 rw [if_neg c8, if_neg c8]
 by_cases c9 : op = 9
 ·rw [if_pos c9, if_pos c9]; exact le_mono h0.ne h1.ne h0.sub h1.sub
 rw [if_neg c9, if_neg c9]
 by_cases c10 : op = 10
 ·rw [if_pos c10, if_pos c10]; exact not_mono h0.ne h0.sub (hb (.inl c10)).1 (hb (.inl c10)).2
 rw [if_neg c10, if_neg c10]
 by_cases c11 : op = 11
 ·rw [if_pos c11, if_pos c11]; exact and_mono h0.ne h1.ne h0.sub h1.sub (hb (.inr c11)).1 (hb (.inr c11)).2 (hb1 c11).1 (hb1 c11).2
 rw [if_neg c11, if_neg c11]
 by_cases c15 : op = 15
 ·rw [if_pos c15, if_pos c15]; exact meet_mono h0.rsub (rSub.refl _)
 rw [if_neg c15, if_neg c15]
 by_cases c16 : op = 16
 ·rw [if_pos c16, if_pos c16]; exact rSub.refl _
 rw [if_neg c16, if_neg c16]
 by_cases c25 : op = 25
 ·rw [if_pos c25, if_pos c25]; exact cut_mono h1.ok h1.ok' h1.ne h0.rsub h1.sub
 rw [if_neg c25, if_neg c25]
 by_cases c26 : op = 26
 ·rw [if_pos c26, if_pos c26]; exact cut_mono h1.ok h1.ok' h1.ne (meet_mono h0.rsub (rSub.refl _)) h1.sub
 rw [if_neg c26, if_neg c26]
 exact rSub.refl _
end Go.Proofs.YtjnpcfpecilejaaGreatDoor
namespace Go.Proofs.YtjnpcfpecilejaaGreatDoor
open Go.Proofs.Tryz
def hAdd (h : Rng × Bool) (n : Int) (fits : Bool) (e : Int) : Rng × Bool := (rJoin h.1 (rOf (if fits then n else e)), h.2 || !fits)
def h4 (h : Rng × Bool) (a b : Rng) (n : Int → Int → Int) (fit : Int → Int → Bool) (e : Int → Int → Int) : Rng × Bool :=
 hAdd (hAdd (hAdd (hAdd h (n a.1 b.1) (fit a.1 b.1) (e a.1 b.1)) (n a.1 b.2) (fit a.1 b.2) (e a.1 b.2)) (n a.2 b.1) (fit a.2 b.1) (e a.2 b.1)) (n a.2 b.2) (fit a.2 b.2) (e a.2 b.2)
instance (k : Nat) (x y : Int) : Decidable (fit3 k x y) := by unfold fit3 is64; infer_instance
instance (k : Nat) (a b : Rng) : Decidable (cornF k a b) := by unfold cornF; infer_instance
def cornP (k : Nat) (a b : Rng) : Rng × Bool := h4 (noR, false) a b (op3 k) (fun x y => decide (fit3 k x y)) (near3 k)
theorem cornP_eq (k : Nat) (a b : Rng) : cornP k a b = (clipQ k a b, !decide (cornF k a b)) := by
 rw [← corn_eq]
 unfold cornP h4 hAdd cornR cornF one3
 simp only [Bool.false_or, qy]
 refine Prod.ext rfl ?_
 dsimp only
 by_cases h1 : fit3 k a.1 b.1 <;> by_cases h2 : fit3 k a.1 b.2 <;> by_cases h3 : fit3 k a.2 b.1 <;> by_cases h4 : fit3 k a.2 b.2 <;> simp [h1, h2, h3, h4]
def sumP (k : Nat) (a b : Rng) (chk : Bool) : Rng := if chk then (cornP k a b).1 else if (cornP k a b).2 then allR else (cornP k a b).1
theorem sumP_eq (k : Nat) (a b : Rng) (chk : Bool) : sumP k a b chk = sumQ k a b chk := by
 unfold sumP sumQ
 rw [cornP_eq]
 cases chk
 ·by_cases h : cornF k a b <;> simp [h]
 ·simp
def fitD (x y : Int) : Bool := decide (x ≠ m64) || decide (y ≠ -1)
def quoH (a p : Rng) (h : Rng × Bool) : Rng × Bool := if p.2 < p.1 then h else h4 h a p Int.tdiv fitD (fun _ _ => M64)
def quotP (a b : Rng) : Rng :=
 let h := quoH a (rMeet b (1, M64)) (quoH a (rMeet b (m64, -1)) (noR, false))
 if h.2 then allR else h.1
theorem join4_next {lo hi : Int} (h : lo ≤ hi) (p q r s : Int) : rJoin (rJoin (rJoin (rJoin (lo, hi) (rOf p)) (rOf q)) (rOf r)) (rOf s) = wideQ (lo, hi) (wideQ (hullQ p q) (hullQ r s)) := by
 obtain ⟨e1, g1⟩ := join_next h p
 obtain ⟨e2, g2⟩ := join_next g1 q
 obtain ⟨e3, g3⟩ := join_next g2 r
 obtain ⟨e4, _⟩ := join_next g3 s
 rw [e1, e2, e3, e4]
 unfold wideQ hullQ imin imax
 refine Prod.ext ?_ ?_ <;> dsimp only <;> (repeat' split) <;> (try dsimp only) <;> (repeat' split) <;> omega
theorem h4_fst {h : Rng × Bool} {a p : Rng} (hf : fitD a.1 p.1 = true ∧ fitD a.1 p.2 = true ∧ fitD a.2 p.1 = true ∧ fitD a.2 p.2 = true) :
  h4 h a p Int.tdiv fitD (fun _ _ => M64) = (rJoin (rJoin (rJoin (rJoin h.1 (rOf (a.1.tdiv p.1))) (rOf (a.1.tdiv p.2))) (rOf (a.2.tdiv p.1))) (rOf (a.2.tdiv p.2)), h.2) := by
 unfold h4 hAdd
 simp [hf.1, hf.2.1, hf.2.2.1, hf.2.2.2]
theorem h4_snd {h : Rng × Bool} {a p : Rng} (n : Int → Int → Int) (fit : Int → Int → Bool) (e : Int → Int → Int) :
  (h4 h a p n fit e).2 = (h.2 || !(fit a.1 p.1 && fit a.1 p.2 && fit a.2 p.1 && fit a.2 p.2)) := by
 unfold h4 hAdd
 cases fit a.1 p.1 <;> cases fit a.1 p.2 <;> cases fit a.2 p.1 <;> cases fit a.2 p.2 <;> simp
theorem quo_ord (a p : Rng) : (quoQ a p).1 ≤ (quoQ a p).2 := by
 unfold quoQ wideQ hullQ
 (repeat' split) <;> (try dsimp only at *) <;> omega
theorem quotP_eq {a b : Rng} (ha : ok64 a) (hb : ok64 b) (na : a.1 ≤ a.2) (nb : b.1 ≤ b.2) : quotP a b = divQ a b := by
 obtain ⟨a1, a2⟩ := a
 obtain ⟨b1, b2⟩ := b
 have ha1 := ha.1; have ha2 := ha.2; have hb1 := hb.1; have hb2 := hb.2
 unfold is64 at ha1 ha2 hb1 hb2
 dsimp only at ha1 ha2 hb1 hb2 na nb
 have hM : M64 = 9223372036854775807 := rfl
 have hm : m64 = -9223372036854775808 := rfl
 have hneg : rMeet (b1, b2) (m64, -1) = if b1 < 0 then (b1, if -1 < b2 then -1 else b2) else noR := by
  unfold rMeet rMade imin imax
  dsimp only
  rw [hm]
  (repeat' split) <;> first | rfl | omega | (refine Prod.ext ?_ ?_ <;> dsimp only <;> omega)
 have hpos : rMeet (b1, b2) (1, M64) = if 0 < b2 then (if b1 < 1 then 1 else b1, b2) else noR := by
  unfold rMeet rMade imin imax
  dsimp only
  rw [hM]
  (repeat' split) <;> first | rfl | omega | (refine Prod.ext ?_ ?_ <;> dsimp only <;> omega)
 have hno : (noR).2 < (noR).1 := by decide
 unfold quotP
 rw [hneg, hpos]
 have fitPos : ∀ x y : Int, 0 < y → fitD x y = true := fun x y h => by unfold fitD; simp; right; omega
 have hposF : 0 < b2 → (fitD a1 (if b1 < 1 then 1 else b1) = true ∧ fitD a1 b2 = true ∧ fitD a2 (if b1 < 1 then 1 else b1) = true ∧ fitD a2 b2 = true) := fun h =>
  ⟨fitPos _ _ (by split <;> omega), fitPos _ _ h, fitPos _ _ (by split <;> omega), fitPos _ _ h⟩
 by_cases cN : b1 < 0
 ·rw [if_pos cN]
  have hnp : ¬ ((b1, if -1 < b2 then -1 else b2) : Rng).2 < ((b1, if -1 < b2 then -1 else b2) : Rng).1 := by dsimp only; split <;> omega
  rw [quoH.eq_1 _ (b1, _), if_neg hnp]
  by_cases cW : a1 = m64 ∧ -1 ≤ b2
  ·
   have hw : (h4 (noR, false) (a1, a2) (b1, if -1 < b2 then -1 else b2) Int.tdiv fitD (fun _ _ => M64)).2 = true := by
    rw [h4_snd]
    have : fitD a1 (if -1 < b2 then -1 else b2) = false := by unfold fitD; simp; exact ⟨cW.1, by omega⟩
    dsimp only
    rw [this]; simp
   have hw2 : (quoH (a1, a2) (if 0 < b2 then (if b1 < 1 then 1 else b1, b2) else noR) (h4 (noR, false) (a1, a2) (b1, if -1 < b2 then -1 else b2) Int.tdiv fitD (fun _ _ => M64))).2 = true := by
    generalize (if 0 < b2 then (if b1 < 1 then 1 else b1, b2) else noR : Rng) = q
    generalize h4 (noR, false) (a1, a2) (b1, if -1 < b2 then -1 else b2) Int.tdiv fitD (fun _ _ => M64) = h at hw ⊢
    unfold quoH
    by_cases c : q.2 < q.1
    ·rw [if_pos c]; exact hw
    ·rw [if_neg c, h4_snd, hw]; rfl
   dsimp only
   rw [if_pos hw2]
   unfold divQ
   rw [if_pos ⟨cW.1, by dsimp only; omega, cW.2⟩]; rfl
  ·have hF : fitD a1 b1 = true ∧ fitD a1 (if -1 < b2 then -1 else b2) = true ∧ fitD a2 b1 = true ∧ fitD a2 (if -1 < b2 then -1 else b2) = true := by
    unfold fitD
    simp only [ne_eq, Bool.or_eq_true, qy]
    refine ⟨?_, ?_, ?_, ?_⟩ <;> (try split) <;> omega
   have e1 := h4_fst (h := (noR, false)) (a := (a1, a2)) (p := (b1, if -1 < b2 then -1 else b2)) hF
   dsimp only at e1
   rw [e1, join4]
   by_cases cP : 0 < b2
   ·rw [if_pos cP]
    have hpp : ¬ ((if b1 < 1 then 1 else b1, b2) : Rng).2 < ((if b1 < 1 then 1 else b1, b2) : Rng).1 := by dsimp only; split <;> omega
    unfold quoH
    rw [if_neg hpp]
    have e2 := h4_fst (h := (wideQ (hullQ (a1.tdiv b1) (a1.tdiv (if -1 < b2 then -1 else b2))) (hullQ (a2.tdiv b1) (a2.tdiv (if -1 < b2 then -1 else b2))), false)) (a := (a1, a2)) (p := (if b1 < 1 then 1 else b1, b2)) (hposF cP)
    dsimp only at e2
    rw [e2]
    have ho := quo_ord (a1, a2) (b1, if -1 < b2 then -1 else b2)
    unfold quoQ at ho
    dsimp only at ho ⊢
    rw [if_neg (by simp)]
    refine (join4_next ho _ _ _ _).trans ?_
    have hx : (if -1 < b2 then -1 else b2) = -1 := if_pos (by omega)
    have hy : (if b1 < 1 then 1 else b1) = 1 := if_pos (by omega)
    have hd : divQ (a1, a2) (b1, b2) = wideQ (quoQ (a1, a2) (b1, -1)) (quoQ (a1, a2) (1, b2)) := by
     unfold divQ
     dsimp only
     rw [if_neg (by omega), if_neg (by omega), if_neg (by omega), if_neg (by omega)]
    rw [hx, hy, hd]
    rfl
   ·rw [if_neg cP]
    unfold quoH
    rw [if_pos hno]
    dsimp only
    rw [if_neg (by simp)]
    have hx : (if -1 < b2 then -1 else b2) = if b2 = 0 then -1 else b2 := by (repeat' split) <;> omega
    have hd : divQ (a1, a2) (b1, b2) = quoQ (a1, a2) (b1, if b2 = 0 then -1 else b2) := by
     unfold divQ
     dsimp only
     rw [if_neg (by omega), if_neg (by omega), if_neg (by omega), if_pos (by omega)]
    rw [hx, hd]; rfl
 ·rw [if_neg cN]
  rw [quoH.eq_1 _ noR, if_pos hno]
  by_cases cP : 0 < b2
  ·rw [if_pos cP]
   have hpp : ¬ ((if b1 < 1 then 1 else b1, b2) : Rng).2 < ((if b1 < 1 then 1 else b1, b2) : Rng).1 := by dsimp only; split <;> omega
   unfold quoH
   rw [if_neg hpp]
   have e2 := h4_fst (h := (noR, false)) (a := (a1, a2)) (p := (if b1 < 1 then 1 else b1, b2)) (hposF cP)
   dsimp only at e2 ⊢
   rw [e2, join4, if_neg (by simp)]
   have hy : (if b1 < 1 then 1 else b1) = if b1 = 0 then 1 else b1 := by (repeat' split) <;> omega
   have hd : divQ (a1, a2) (b1, b2) = quoQ (a1, a2) (if b1 = 0 then 1 else b1, b2) := by
    unfold divQ
    dsimp only
    rw [if_neg (by omega), if_neg (by omega), if_pos (by omega)]
   rw [hy, hd]; rfl
  ·rw [if_neg cP]
   unfold quoH
   rw [if_pos hno]
   have hd : divQ (a1, a2) (b1, b2) = noR := by
    unfold divQ
    dsimp only
    rw [if_neg (by omega), if_pos (by omega)]
   rw [hd]; rfl
def restP (a b : Rng) : Rng :=
 if b = (0, 0) then noR else
  let k := if 0 < b.2 then imax (if b.1 < 0 then -(b.1 + 1) else 0) (b.2 - 1) else (if b.1 < 0 then -(b.1 + 1) else 0)
  (if a.1 < 0 then imax a.1 (-k) else 0, if 0 < a.2 then imin a.2 k else 0)
theorem restP_eq {a b : Rng} (nb : b.1 ≤ b.2) : restP a b = remQ a b := by
 obtain ⟨b1, b2⟩ := b
 unfold restP remQ
 dsimp only at *
 by_cases h : b1 = 0 ∧ b2 = 0
 ·rw [if_pos h, if_pos (by rw [h.1, h.2])]
 ·rw [if_neg h, if_neg (by intro e; cases e; exact h ⟨rfl, rfl⟩)]
  have : (if 0 < b2 then imax (if b1 < 0 then -(b1 + 1) else 0) (b2 - 1) else (if b1 < 0 then -(b1 + 1) else 0)) = far (b1, b2) := by
   unfold far imax; dsimp only; (repeat' split) <;> omega
  rw [this]
  refine Prod.ext ?_ ?_
  ·dsimp only; unfold imax; (repeat' split) <;> omega
  ·dsimp only; unfold imin; (repeat' split) <;> omega
def truP (always never : Bool) : Rng := if always then (1, 1) else if never then (0, 0) else (0, 1)
theorem truP_eq {al ne no ye : Bool} (h1 : no = !al) (h2 : ye = !ne) (h : ¬ (al = true ∧ ne = true)) : truP al ne = truQ no ye := by
 subst h1 h2
 cases al <;> cases ne <;> simp_all [truP, truQ]
def truthP (op : Int) (a b : Rng) : Rng :=
 if a.2 < a.1 ∨ b.2 < b.1 then noR else
 if op = 7 then truP (decide (a.1 = a.2) && decide (a = b)) (decide ((rMeet a b).2 < (rMeet a b).1)) else
 if op = 8 then truP (decide (a.2 < b.1)) (decide (b.2 ≤ a.1)) else
 if op = 9 then truP (decide (a.2 ≤ b.1)) (decide (b.2 < a.1)) else (0, 1)
theorem truth7 {a b : Rng} (na : a.1 ≤ a.2) (nb : b.1 ≤ b.2) : truthP 7 a b = eqQ a b := by
 unfold truthP
 rw [if_neg (by omega), if_pos rfl]
 refine truP_eq rfl rfl ?_
 rintro ⟨h1, h2⟩
 simp only [qw, qy, meet_ne] at h1 h2
 obtain ⟨h1, rfl⟩ := h1
 unfold imin imax at h2
 (repeat' split at h2) <;> omega
theorem truth8 {a b : Rng} (na : a.1 ≤ a.2) (nb : b.1 ≤ b.2) : truthP 8 a b = ltQ a b := by
 unfold truthP
 rw [if_neg (by omega), if_neg (by decide), if_pos rfl]
 refine truP_eq (by rw [← decide_not]; exact decide_eq_decide.2 (by omega)) (by rw [← decide_not]; exact decide_eq_decide.2 (by omega)) ?_
 simp only [qy]; omega
theorem truth9 {a b : Rng} (na : a.1 ≤ a.2) (nb : b.1 ≤ b.2) : truthP 9 a b = leQ a b := by
 unfold truthP
 rw [if_neg (by omega), if_neg (by decide), if_neg (by decide), if_pos rfl]
 refine truP_eq (by rw [← decide_not]; exact decide_eq_decide.2 (by omega)) (by rw [← decide_not]; exact decide_eq_decide.2 (by omega)) ?_
 simp only [qy]; omega
theorem notP_eq {a : Rng} (na : a.1 ≤ a.2) (h0 : 0 ≤ a.1) (h1 : a.2 ≤ 1) : ((1 - a.2, 1 - a.1) : Rng) = notQ a := by
 unfold notQ truQ
 refine Prod.ext ?_ ?_ <;> simp only [qy] <;> split <;> omega
theorem andP_eq {a b : Rng} (na : a.1 ≤ a.2) (nb : b.1 ≤ b.2) (h0 : 0 ≤ a.1) (h1 : a.2 ≤ 1) (g0 : 0 ≤ b.1) (g1 : b.2 ≤ 1) : ((imin a.1 b.1, imin a.2 b.2) : Rng) = andQ a b := by
 unfold andQ truQ imin
 refine Prod.ext ?_ ?_ <;> simp only [Bool.or_eq_true, qw, qy] <;> (repeat' split) <;> omega
def cutP (num : Int) (a b : Rng) : Rng :=
 if a.2 < a.1 ∨ b.2 < b.1 then noR else
 if num = 0 then (if b.2 = m64 then noR else rMade a.1 (imin a.2 (b.2 - 1))) else
 if num = 1 then rMade a.1 (imin a.2 b.2) else
 if num = 2 then rMeet a b else
 if num = 3 then rMade (imax a.1 b.1) a.2 else
 if num = 4 then (if b.1 = M64 then noR else rMade (imax a.1 (b.1 + 1)) a.2) else a
theorem cutP_eq {num : Int} {a b : Rng} (ha : ok64 a) (na : a.1 ≤ a.2) (nb : b.1 ≤ b.2) : cutP num a b = cutQ num a b := by
 have h1 := ha.1; have h2 := ha.2
 unfold is64 at h1 h2
 have e1 : imax a.1 m64 = a.1 := by unfold imax m64; split <;> omega
 have e2 : imin a.2 M64 = a.2 := by unfold imin M64; split <;> omega
 unfold cutP cutQ rMeet
 rw [if_neg (by omega)]
 dsimp only
 rw [e1, e2]
end Go.Proofs.YtjnpcfpecilejaaGreatDoor
namespace Go.Proofs.YtjnpcfpecilejaaGreatDoor
open Go.Proofs.Tryz
open Go.Proofs
theorem wrap_fit {z : Int} (h : is64 z) : IntKind.i64.wrap z = z := by
 unfold is64 at h
 unfold IntKind.wrap; simp [IntKind.bits, IntKind.signed]; omega
def selR (a : Rng) (i : Nat) : Int := if i = 0 then a.1 else a.2
theorem sel_ok {a : Rng} (h : ok64 a) (i : Nat) : is64 (selR a i) := by unfold selR; split; exact h.1; exact h.2
theorem sel_get {a : Rng} {i : Nat} (h : i < 2) : ([AV.int .i64 a.1, AV.int .i64 a.2] : List AV)[i]? = some (.int .i64 (selR a i)) := by
 rcases (by omega : i = 0 ∨ i = 1) with rfl | rfl <;> rfl
def hSt (n : Int → Int → Int) (fit : Int → Int → Bool) (e : Int → Int → Int) (h0 : Rng × Bool) (a b : Rng) : Nat → Rng × Bool
 | 0 => h0
 | m + 1 => hAdd (hSt n fit e h0 a b m) (n (selR a (m / 2)) (selR b (m % 2))) (fit (selR a (m / 2)) (selR b (m % 2))) (e (selR a (m / 2)) (selR b (m % 2)))
theorem hSt_step {n : Int → Int → Int} {fit : Int → Int → Bool} {e : Int → Int → Int} {h0 : Rng × Bool} {a b : Rng} (i : Nat) {j : Nat} (hj : j < 2) :
  hSt n fit e h0 a b (2 * i + (j + 1)) = hAdd (hSt n fit e h0 a b (2 * i + j)) (n (selR a i) (selR b j)) (fit (selR a i) (selR b j)) (e (selR a i) (selR b j)) := by
 rw [← Nat.add_assoc, hSt, show (2 * i + j) / 2 = i by omega, show (2 * i + j) % 2 = j by omega]
theorem hAdd_fit {h : Rng × Bool} {n n' : Int} {fits : Bool} {e e' : Int} (h1 : fits = true → n = n') (h2 : e = e') : hAdd h n fits e = hAdd h n' fits e' := by
 cases fits
 ·unfold hAdd; simp [h2]
 ·rw [h1 rfl, h2]
theorem add_fit {x y : Int} : decide (fit3 0 x y) = true → IntKind.i64.wrap (x + y) = op3 0 x y := fun h => wrap_fit (of_decide_eq_true h)
theorem sub_fit {x y : Int} : decide (fit3 1 x y) = true → IntKind.i64.wrap (x - y) = op3 1 x y := fun h => wrap_fit (of_decide_eq_true h)
theorem mul_fit3 {x y : Int} : decide (fit3 2 x y) = true → IntKind.i64.wrap (x * y) = op3 2 x y := fun h => wrap_fit (of_decide_eq_true h)
theorem sumB {x y : Int} (hx : is64 x) (hy : is64 y) : (!(decide (x < 0) == decide (y < 0)) || (decide (IntKind.i64.wrap (x + y) < 0) == decide (x < 0))) = decide (fit3 0 x y) := by
 have hw : IntKind.i64.wrap (x + y) = (if x + y < -9223372036854775808 then x + y + 18446744073709551616 else if 9223372036854775807 < x + y then x + y - 18446744073709551616 else x + y) := by
  unfold is64 at hx hy
  unfold IntKind.wrap; simp [IntKind.bits, IntKind.signed]; (repeat' split) <;> omega
 rw [hw, qq, qy]
 show _ ↔ is64 (x + y)
 unfold is64 at *
 simp only [Bool.or_eq_true, Bool.not_eq_true', beq_eq_false_iff_ne, beq_iff_eq, decide_eq_decide, ne_eq]
 (repeat' split) <;> omega
theorem subB {x y : Int} (hx : is64 x) (hy : is64 y) : ((decide (x < 0) == decide (y < 0)) || (decide (IntKind.i64.wrap (x - y) < 0) == decide (x < 0))) = decide (fit3 1 x y) := by
 have hw : IntKind.i64.wrap (x - y) = (if x - y < -9223372036854775808 then x - y + 18446744073709551616 else if 9223372036854775807 < x - y then x - y - 18446744073709551616 else x - y) := by
  unfold is64 at hx hy
  unfold IntKind.wrap; simp [IntKind.bits, IntKind.signed]; (repeat' split) <;> omega
 rw [hw, qq, qy]
 show _ ↔ is64 (x - y)
 unfold is64 at *
 simp only [Bool.or_eq_true, beq_iff_eq, decide_eq_decide]
 (repeat' split) <;> omega
theorem abs_wrap {x : Int} (h : is64 x) : (if x < 0 then IntKind.u64.wrap (0 - IntKind.u64.wrap x) else IntKind.u64.wrap x) = ((x.natAbs : Nat) : Int) := by
 unfold is64 at h
 unfold IntKind.wrap; simp [IntKind.bits, IntKind.signed]; split <;> omega
theorem abs_lt {x : Int} (h : is64 x) : x.natAbs < 18446744073709551616 := by unfold is64 at h; omega
theorem mulB {x y : Int} : (decide (((x.natAbs * y.natAbs / 18446744073709551616 : Nat) : Int) = 0) && decide (((x.natAbs * y.natAbs % 18446744073709551616 : Nat) : Int) ≤ (if (!(decide (x < 0) == decide (y < 0))) = true then 9223372036854775808 else 9223372036854775807))) = decide (fit3 2 x y) := by
 have hm := Int.natAbs_mul x y
 rw [qq, qy (p := fit3 2 x y)]
 show _ ↔ is64 (x * y)
 unfold is64
 rw [← hm]
 have hs : (x < 0 ↔ y < 0) → 0 ≤ x * y := fun h => by
  by_cases hx : x < 0
  ·exact Int.le_of_lt (Int.mul_pos_of_neg_of_neg hx (h.1 hx))
  ·exact Int.mul_nonneg (by omega) (by have := mt h.2 hx; omega)
 have hd : ¬ (x < 0 ↔ y < 0) → x * y ≤ 0 := fun h => by
  by_cases hx : x < 0
  ·have hy : ¬ y < 0 := fun hy => h ⟨fun _ => hy, fun _ => hx⟩
   exact Int.mul_nonpos_of_nonpos_of_nonneg (by omega) (by omega)
  ·have hy : y < 0 := Classical.byContradiction fun hy => h ⟨fun h => absurd h hx, fun h => absurd h hy⟩
   exact Int.mul_nonpos_of_nonneg_of_nonpos (by omega) (by omega)
 generalize x * y = z at *
 simp only [qw, qy, Bool.not_eq_true', beq_eq_false_iff_ne, decide_eq_decide, ne_eq]
 by_cases c : (x < 0 ↔ y < 0)
 ·have := hs c
  rw [if_neg (by simp [c])]; omega
 ·have := hd c
  rw [if_pos c]; omega
theorem near_0 (x y : Int) : (if decide (x < 0) = true then m64 else M64) = near3 0 x y := rfl
theorem near_1 (x y : Int) : (if decide (x < 0) = true then m64 else M64) = near3 1 x y := rfl
theorem near_2 (x y : Int) : (if (!(decide (x < 0) == decide (y < 0))) = true then m64 else M64) = near3 2 x y := rfl
theorem quo_fit {x y : Int} (hx : is64 x) (hy : y ≠ 0) (h : fitD x y = true) : IntKind.i64.wrap (x.tdiv y) = x.tdiv y := by
 refine wrap_fit ?_
 have h1 : (x.tdiv y).natAbs = x.natAbs / y.natAbs := Int.natAbs_tdiv x y
 have h2 : x.natAbs / y.natAbs ≤ x.natAbs := Nat.div_le_self _ _
 unfold is64 at *
 by_cases e : x = -9223372036854775808
 ·subst e
  have hy1 : y ≠ -1 := by unfold fitD m64 at h; simpa using h
  by_cases h3 : y = 1
  ·subst h3; rw [Int.tdiv_one]; omega
  ·have h4 : 2 ≤ y.natAbs := by omega
   have h5 : (-9223372036854775808 : Int).natAbs / y.natAbs ≤ (-9223372036854775808 : Int).natAbs / 2 := Nat.div_le_div_left h4 (by omega)
   have h6 : (-9223372036854775808 : Int).natAbs / 2 = 4611686018427387904 := by decide
   omega
 ·omega
def partR (b : Rng) (q : Nat) : Rng := if q = 0 then rMeet b (m64, -1) else rMeet b (1, M64)
def quoT (a b : Rng) : Nat → Rng × Bool
 | 0 => (noR, false)
 | q + 1 => quoH a (partR b q) (quoT a b q)
theorem quoT_2 (a b : Rng) : quotP a b = if (quoT a b 2).2 then allR else (quoT a b 2).1 := rfl
theorem part_nz {b : Rng} {q j : Nat} (h : ¬ (partR b q).2 < (partR b q).1) : selR (partR b q) j ≠ 0 := by
 unfold partR at *
 unfold selR
 split at h
 ·rename_i hq
  rw [if_pos hq]
  unfold rMeet rMade imin imax noR at *
  dsimp only at *
  (repeat' split at h) <;> (repeat' split) <;> (try dsimp only at *) <;> omega
 ·rename_i hq
  rw [if_neg hq]
  unfold rMeet rMade imin imax noR at *
  dsimp only at *
  (repeat' split at h) <;> (repeat' split) <;> (try dsimp only at *) <;> omega
def encZ (r : Rng) : List AV := [.int .i64 r.1, .int .i64 r.2]
def encH (h : Rng × Bool) : List AV := [.int .i64 h.1.1, .int .i64 h.1.2, .bool h.2]
theorem aggR {r : Rng} {x y : Int} (h1 : x = r.1) (h2 : y = r.2) : AV.agg [.int .i64 x, .int .i64 y] = AV.agg (encZ r) := by subst h1 h2; rfl
theorem part_get {b : Rng} {q : Nat} (h : q < 2) : ((encZ (rMeet b (m64, -1)) ++ encZ (rMeet b (1, M64))).drop (q * 2)).take 2 = encZ (partR b q) := by
 rcases (by omega : q = 0 ∨ q = 1) with rfl | rfl <;> rfl
end Go.Proofs.YtjnpcfpecilejaaGreatDoor
namespace Go.Proofs.YtjnpcfpecilejaaGreatDoor
open Go.Proofs.Tryz
open Go.Proofs
theorem pl74 : Places prog 74 #[(0, 1), (1, 1)] [.int .i64 0, .int .i64 0] := ⟨_, _, underlying74, zeroValue74, fun w => by kernel_rfl, rfl⟩
variable {E : World}
set_option maxRecDepth 20000
theorem eq_range (a b c d : Int) (w : World) : (Op.equalIn 10000 74 (.agg [.int .i64 a, .int .i64 b].toArray) (.agg [.int .i64 c, .int .i64 d].toArray)).run prog w = .ok (decide (a = c ∧ b = d)) w := by
 have hS : prog.underlying 74 = some (.struct (prog.fieldsOf 74)) := by kernel_rfl
 have hp : prog.stoodInHeld 74 = false := by kernel_rfl
 rw [show (10000 : Nat) = 9999 + 1 from rfl, run_equalIn_agg w 9999 _ _ _ hS hp]
 simp only [Program.fieldsOf, underlying74]
 simp [Op.eqFields, part, isAgg2, run_equalIn_int, underlying2]
 by_cases h1 : a = c <;> by_cases h2 : b = d <;> simp [h1, h2]
theorem iNone : AFun prog E 68 [] (.agg (encZ noR)) := by
 refine zn func68 rfl (by decide) rfl<|zSr<|zo (cs := [.int .i64 0, .int .i64 0]) zeroValue74 rfl rfl<|fun i0 => z6<|zSr<|z2 (zx (cps := [(0, [_]), (1, [_])]) (rs := [_, _]) pl74 rfl rfl rfl)<|zc sizeOf74 rfl rfl rfl rfl rfl rfl .head rfl<|z6<|zd<|y8 rfl ⟨_, .head⟩ isAgg74 sizeOf74 rfl ?_
 rfl
theorem iOf (n : Int) : AFun prog E 74 [.int .i64 n] (.agg (encZ (rOf n))) := by
 refine zn func74 rfl (by decide) rfl<|zSr<|zo (cs := [.int .i64 0, .int .i64 0]) zeroValue74 rfl rfl<|fun i2 => z6<|zSr<|z2 (zMi rfl)<|z2 (zMi rfl)<|z2 (zx (cps := [(0, [_]), (1, [_])]) (rs := [_, _]) pl74 rfl rfl rfl)<|zc sizeOf74 rfl rfl rfl rfl rfl rfl .head rfl<|z6<|zd<|y8 rfl ⟨_, .head⟩ isAgg74 sizeOf74 rfl ?_
 rfl
theorem iAll : AFun prog E 118 [] (.agg (encZ allR)) := by
 refine zn func118 rfl (by decide) rfl<|zSr<|zo (cs := [.int .i64 0, .int .i64 0]) zeroValue74 rfl rfl<|fun i0 => z6<|zSr<|z2 (zx (cps := [(0, [_]), (1, [_])]) (rs := [_, _]) pl74 rfl rfl rfl)<|zc sizeOf74 rfl rfl rfl rfl rfl rfl .head rfl<|z6<|zd<|y8 rfl ⟨_, .head⟩ isAgg74 sizeOf74 rfl ?_
 rfl
theorem iType (t : Int) : AFun prog E 73 [.int .i64 t] (.agg (encZ (rType t))) := by
 refine zn func73 rfl (by decide) rfl<|zSr<|zo (cs := [.int .i64 0, .int .i64 0]) zeroValue74 rfl rfl<|fun i2 => z6<|za<|zSr<|z2 (zMi rfl)<|z6<|zi<|zSr<|z2 (zw rfl rfl)<|z2 (zAb rfl)<|z6<|zy rfl (fun c1=>?_) (fun c1=>?_)
 ·refine zSr<|zb (iAll) rfl<|zc sizeOf74 rfl rfl rfl rfl rfl rfl .head rfl<|z6<|zd<|y8 rfl ⟨_, .head⟩ isAgg74 sizeOf74 rfl ?_
  exact aggR (by simp_all [rType, allR]) (by simp_all [rType, allR])
 ·refine zSr<|z2 (zw rfl rfl)<|z2 (zAb rfl)<|z6<|zy rfl (fun c2=>?_) (fun c2=>?_)
  ·refine zSr<|z2 (zx (cps := [(0, [_]), (1, [_])]) (rs := [_, _]) pl74 rfl rfl rfl)<|zc sizeOf74 rfl rfl rfl rfl rfl rfl .head rfl<|z6<|zd<|y8 rfl ⟨_, .head⟩ isAgg74 sizeOf74 rfl ?_
   exact aggR (by simp_all [rType, allR]) (by simp_all [rType, allR])
  ·refine zSr<|z2 (zw rfl rfl)<|z2 (zAb rfl)<|z6<|zy rfl (fun c3=>?_) (fun c3=>?_)
   ·refine zSr<|z2 (zx (cps := [(0, [_]), (1, [_])]) (rs := [_, _]) pl74 rfl rfl rfl)<|zc sizeOf74 rfl rfl rfl rfl rfl rfl .head rfl<|z6<|zd<|y8 rfl ⟨_, .head⟩ isAgg74 sizeOf74 rfl ?_
    exact aggR (by simp_all [rType, allR]) (by simp_all [rType, allR])
   ·refine zf<|zSr<|zb (iNone) rfl<|zc sizeOf74 rfl rfl rfl rfl rfl rfl .head rfl<|z6<|zd<|y8 rfl ⟨_, .head⟩ isAgg74 sizeOf74 rfl ?_
    exact aggR (by simp_all [rType, allR]) (by simp_all [rType, allR])
theorem iMade (lo hi : Int) : AFun prog E 131 [.int .i64 lo, .int .i64 hi] (.agg (encZ (rMade lo hi))) := by
 refine zn func131 rfl (by decide) rfl<|zSr<|zo (cs := [.int .i64 0, .int .i64 0]) zeroValue74 rfl rfl<|fun i4 => z6<|za<|zSr<|z2 (zMi rfl)<|z2 (zMi rfl)<|z2 (yq rfl rfl)<|z6<|zl rfl (fun c=>?_) (fun c=>?_)
 ·refine zSr<|zb (iNone) rfl<|zc sizeOf74 rfl rfl rfl rfl rfl rfl .head rfl<|z6<|zd<|y8 rfl ⟨_, .head⟩ isAgg74 sizeOf74 rfl ?_
  rw [rMade, if_pos c]; try rfl
 ·refine zf<|zSr<|z2 (zMi rfl)<|z2 (zMi rfl)<|z2 (zx (cps := [(0, [_]), (1, [_])]) (rs := [_, _]) pl74 rfl rfl rfl)<|zc sizeOf74 rfl rfl rfl rfl rfl rfl .head rfl<|z6<|zd<|y8 rfl ⟨_, .head⟩ isAgg74 sizeOf74 rfl ?_
  rw [rMade, if_neg c]; try rfl
theorem iMeet (a b : Rng) : AFun prog E 81 [.agg (encZ a), .agg (encZ b)] (.agg (encZ (rMeet a b))) := by
 refine zn func81 rfl (by decide) rfl<|zSr<|y1 (cs := _) rfl rfl rfl<|y1 (cs := _) rfl rfl rfl<|zo (cs := [.int .i64 0, .int .i64 0]) zeroValue74 rfl rfl<|fun i4 => z6<|zSr<|z2 (zFF underlying74 rfl sizeOf2 rfl rfl)<|z2 (zLi isAgg2 rfl)<|z2 (zFF underlying74 rfl sizeOf2 rfl rfl)<|z2 (zLi isAgg2 rfl)<|z2 (Gv.maxI rfl rfl)<|z2 (zFF underlying74 rfl sizeOf2 rfl rfl)<|z2 (zLi isAgg2 rfl)<|z2 (zFF underlying74 rfl sizeOf2 rfl rfl)<|z2 (zLi isAgg2 rfl)<|z2 (Gv.minI rfl rfl)<|zb (iMade _ _) rfl<|zc sizeOf74 rfl rfl rfl rfl rfl rfl .head rfl<|z6<|zd<|y8 rfl ⟨_, .head⟩ isAgg74 sizeOf74 rfl ?_
 rfl
theorem iEmpty (r : Rng) : AFun prog E 82 [.agg (encZ r)] (.bool (decide (r.2 < r.1))) := by
 refine zn func82 rfl (by decide) rfl<|zSr<|y1 (cs := _) rfl rfl rfl<|z2 (zAb rfl)<|z6<|zSr<|z2 (zFF underlying74 rfl sizeOf2 rfl rfl)<|z2 (zLi isAgg2 rfl)<|z2 (zFF underlying74 rfl sizeOf2 rfl rfl)<|z2 (zLi isAgg2 rfl)<|z2 (yq rfl rfl)<|z2 (zAb rfl)<|z6<|zd<|zm (x := .bool _) rfl ?_
 rfl
theorem iJoin (a b : Rng) : AFun prog E 181 [.agg (encZ a), .agg (encZ b)] (.agg (encZ (rJoin a b))) := by
 refine zn func181 rfl (by decide) rfl<|zSr<|y1 (cs := _) rfl rfl rfl<|y1 (cs := _) rfl rfl rfl<|zo (cs := [.int .i64 0, .int .i64 0]) zeroValue74 rfl rfl<|fun i4 => z6<|za<|zi<|zSr<|z2 (zh isAgg74 sizeOf74 rfl rfl)<|zb (iEmpty _) rfl<|z2 (zAb rfl)<|z6<|zl rfl (fun c1=>?_) (fun c1=>?_)
 ·refine zSr<|z2 (zFF underlying74 rfl sizeOf2 rfl rfl)<|z2 (zLi isAgg2 rfl)<|z2 (zFF underlying74 rfl sizeOf2 rfl rfl)<|z2 (zLi isAgg2 rfl)<|zb (iMade _ _) rfl<|zc sizeOf74 rfl rfl rfl rfl rfl rfl .head rfl<|z6<|zd<|y8 rfl ⟨_, .head⟩ isAgg74 sizeOf74 rfl ?_
  rw [rJoin, if_pos c1]; try rfl
 ·refine zSr<|z2 (zh isAgg74 sizeOf74 rfl rfl)<|zb (iEmpty _) rfl<|z2 (zAb rfl)<|z6<|zl rfl (fun c2=>?_) (fun c2=>?_)
  ·refine zSr<|z2 (zh isAgg74 sizeOf74 rfl rfl)<|zc sizeOf74 rfl rfl rfl rfl rfl rfl .head rfl<|z6<|zd<|y8 rfl ⟨_, .head⟩ isAgg74 sizeOf74 rfl ?_
   rw [rJoin, if_neg c1, if_pos c2]; try rfl
  ·refine zf<|zSr<|z2 (zFF underlying74 rfl sizeOf2 rfl rfl)<|z2 (zLi isAgg2 rfl)<|z2 (zFF underlying74 rfl sizeOf2 rfl rfl)<|z2 (zLi isAgg2 rfl)<|z2 (Gv.minI rfl rfl)<|z2 (zFF underlying74 rfl sizeOf2 rfl rfl)<|z2 (zLi isAgg2 rfl)<|z2 (zFF underlying74 rfl sizeOf2 rfl rfl)<|z2 (zLi isAgg2 rfl)<|z2 (Gv.maxI rfl rfl)<|z2 (zx (cps := [(0, [_]), (1, [_])]) (rs := [_, _]) pl74 rfl rfl rfl)<|zc sizeOf74 rfl rfl rfl rfl rfl rfl .head rfl<|z6<|zd<|y8 rfl ⟨_, .head⟩ isAgg74 sizeOf74 rfl ?_
   rw [rJoin, if_neg c1, if_neg c2]; try rfl
theorem iNear (b : Bool) : AFun prog E 235 [.bool b] (.int .i64 (if b = true then m64 else M64)) := by
 refine zn func235 rfl (by decide) rfl<|zSr<|z2 (zAi rfl)<|z6<|za<|zSr<|z2 (zMb rfl)<|z6<|zy rfl (fun c7=>?_) (fun c7=>?_)
 ·refine zSr<|z2 (zAi rfl)<|z6<|zd<|zm (x := .int _ _) rfl ?_
  simp_all [m64, M64]
 ·refine zf<|zSr<|z2 (zAi rfl)<|z6<|zd<|zm (x := .int _ _) rfl ?_
  simp_all [m64, M64]
theorem iSums (op : Int) : AFun prog E 217 [.int .i64 op] (.bool (decide (op = 2) || (decide (op = 3) || decide (op = 4)))) := by
 refine zn func217 rfl (by decide) rfl<|zSr<|z2 (zAb rfl)<|z6<|zSr<|z2 (zMi rfl)<|z2 (zw rfl rfl)<|z2 (zMb rfl)<|zr (s := 5) rfl (fun c8=>?_) (fun c8=>?_)
 ·refine z7 rfl rfl c8<|z7 rfl rfl c8<|z2 (zPt rfl c8 rfl)<|z2 (zMb rfl)<|z7 rfl rfl rfl<|z7 rfl rfl rfl<|z2 (zPt rfl rfl rfl)<|z2 (zAb rfl)<|z6<|zd<|zm (x := .bool _) rfl ?_
  exact jb (by simp_all)
 ·refine z8 rfl rfl c8<|z2 (zMi rfl)<|z8 rfl rfl c8<|z2 (zw rfl rfl)<|z2 (zPf rfl c8 rfl)<|z2 (zMb rfl)<|zr (s := 9) rfl (fun c9=>?_) (fun c9=>?_)
  ·refine z7 rfl rfl c9<|z7 rfl rfl c9<|z2 (zPt rfl c9 rfl)<|z2 (zAb rfl)<|z6<|zd<|zm (x := .bool _) rfl ?_
   exact jb (by simp_all)
  ·refine z8 rfl rfl c9<|z2 (zMi rfl)<|z8 rfl rfl c9<|z2 (zw rfl rfl)<|z2 (zPf rfl c9 rfl)<|z2 (zAb rfl)<|z6<|zd<|zm (x := .bool _) rfl ?_
   exact jb (by simp_all)
theorem aAdd {x y : Int} (hx : is64 x) (hy : is64 y) : AFun prog E 223 [.int .i64 x, .int .i64 y] (.tup [.int .i64 (IntKind.i64.wrap (x + y)), .bool (decide (fit3 0 x y))]) := by
 rw [← sumB hx hy]
 refine zn func223 rfl (by decide) rfl<|zSr<|z2 (zAi rfl)<|z2 (zAb rfl)<|z6<|zSr<|z2 (zMi rfl)<|z2 (zMi rfl)<|z2 (Gv.addW rfl rfl)<|z2 (zAi rfl)<|z6<|zSr<|z2 (zMi rfl)<|z2 (zMi rfl)<|z2 (y7 rfl rfl)<|z2 (zMi rfl)<|z2 (y7 rfl rfl)<|z2 (Gv.neqB underlying4 rfl rfl)<|z2 (zMb rfl)<|zr (s := 16) rfl (fun c10=>?_) (fun c10=>?_)
 ·refine z7 rfl rfl c10<|z7 rfl rfl c10<|z7 rfl rfl c10<|z7 rfl rfl c10<|z7 rfl rfl c10<|z2 (zPt rfl c10 rfl)<|z2 (zAi rfl)<|z2 (zAb rfl)<|z6<|zd<|qa (x := .int _ _) (y := .bool _) rfl rfl ?_
  simp_all
 ·refine z8 rfl rfl c10<|z2 (zMi rfl)<|z8 rfl rfl c10<|z2 (y7 rfl rfl)<|z8 rfl rfl c10<|z2 (zMi rfl)<|z8 rfl rfl c10<|z2 (y7 rfl rfl)<|z8 rfl rfl c10<|z2 (Gv.eqlB underlying4 rfl rfl)<|z2 (zPf rfl c10 rfl)<|z2 (zAi rfl)<|z2 (zAb rfl)<|z6<|zd<|qa (x := .int _ _) (y := .bool _) rfl rfl ?_
  simp_all
theorem aSub {x y : Int} (hx : is64 x) (hy : is64 y) : AFun prog E 236 [.int .i64 x, .int .i64 y] (.tup [.int .i64 (IntKind.i64.wrap (x - y)), .bool (decide (fit3 1 x y))]) := by
 rw [← subB hx hy]
 refine zn func236 rfl (by decide) rfl<|zSr<|z2 (zAi rfl)<|z2 (zAb rfl)<|z6<|zSr<|z2 (zMi rfl)<|z2 (zMi rfl)<|z2 (Gv.subW rfl rfl)<|z2 (zAi rfl)<|z6<|zSr<|z2 (zMi rfl)<|z2 (zMi rfl)<|z2 (y7 rfl rfl)<|z2 (zMi rfl)<|z2 (y7 rfl rfl)<|z2 (Gv.eqlB underlying4 rfl rfl)<|z2 (zMb rfl)<|zr (s := 16) rfl (fun c11=>?_) (fun c11=>?_)
 ·refine z7 rfl rfl c11<|z7 rfl rfl c11<|z7 rfl rfl c11<|z7 rfl rfl c11<|z7 rfl rfl c11<|z2 (zPt rfl c11 rfl)<|z2 (zAi rfl)<|z2 (zAb rfl)<|z6<|zd<|qa (x := .int _ _) (y := .bool _) rfl rfl ?_
  simp_all
 ·refine z8 rfl rfl c11<|z2 (zMi rfl)<|z8 rfl rfl c11<|z2 (y7 rfl rfl)<|z8 rfl rfl c11<|z2 (zMi rfl)<|z8 rfl rfl c11<|z2 (y7 rfl rfl)<|z8 rfl rfl c11<|z2 (Gv.eqlB underlying4 rfl rfl)<|z2 (zPf rfl c11 rfl)<|z2 (zAi rfl)<|z2 (zAb rfl)<|z6<|zd<|qa (x := .int _ _) (y := .bool _) rfl rfl ?_
  simp_all
theorem aAbs {x : Int} (hx : is64 x) : AFun prog E 256 [.int .i64 x] (.int .u64 (x.natAbs : Int)) := by
 rw [← abs_wrap hx]
 refine zn func256 rfl (by decide) rfl<|zSr<|z2 (zAi rfl)<|z6<|za<|zSr<|z2 (zMi rfl)<|z2 (y7 rfl rfl)<|z6<|zl rfl (fun c=>?_) (fun c=>?_)
 ·refine zSr<|z2 (zMi rfl)<|z2 (q7 underlying2 underlying232 rfl)<|z2 (Gv.neg rfl)<|z2 (zAi rfl)<|z6<|zd<|zm (x := .int _ _) rfl ?_
  rw [if_pos c]; try rfl
 ·refine zf<|zSr<|z2 (zMi rfl)<|z2 (q7 underlying2 underlying232 rfl)<|z2 (zAi rfl)<|z6<|zd<|zm (x := .int _ _) rfl ?_
  rw [if_neg c]; try rfl
theorem aDiv {x y : Int} (hy : y ≠ 0) : AFun prog E 238 [.int .i64 x, .int .i64 y] (.tup [.int .i64 (IntKind.i64.wrap (x.tdiv y)), .bool true]) := by
 refine zn func238 rfl (by decide) rfl<|zSr<|z2 (zAi rfl)<|z2 (zAb rfl)<|z6<|za<|zSr<|z2 (zMi rfl)<|z2 (zw rfl rfl)<|z6<|yn rfl (by simpa using hy)<|zf<|zSr<|z2 (zMi rfl)<|z2 (zMi rfl)<|z2 (Gv.quo rfl rfl (by omega))<|z2 (zAi rfl)<|z2 (zAb rfl)<|z6<|zd<|qa (x := .int _ _) (y := .bool _) rfl rfl ?_
 rfl
end Go.Proofs.YtjnpcfpecilejaaGreatDoor
namespace Go.Proofs.YtjnpcfpecilejaaGreatDoor
open Go.Proofs.Tryz
open Go.Proofs
theorem wrap_s (z : Int) : IntKind.i64.wrap z = (z + 9223372036854775808) % 18446744073709551616 - 9223372036854775808 := by
 unfold IntKind.wrap; simp [IntKind.bits, IntKind.signed]; (try split) <;> omega
theorem wrap_u (z : Int) : IntKind.u64.wrap z = z % 18446744073709551616 := by
 unfold IntKind.wrap; simp [IntKind.bits, IntKind.signed]
theorem wrapU_add (x y : Int) : IntKind.i64.wrap (IntKind.u64.wrap (IntKind.u64.wrap x + IntKind.u64.wrap y)) = IntKind.i64.wrap (x + y) := by
 simp only [wrap_s, wrap_u]; omega
theorem wrapU_sub (x y : Int) : IntKind.i64.wrap (IntKind.u64.wrap (IntKind.u64.wrap x - IntKind.u64.wrap y)) = IntKind.i64.wrap (x - y) := by
 simp only [wrap_s, wrap_u]; omega
theorem wrapU_mul (x y : Int) : IntKind.i64.wrap (IntKind.u64.wrap (IntKind.u64.wrap x * IntKind.u64.wrap y)) = IntKind.i64.wrap (x * y) := by
 simp only [wrap_s, wrap_u]
 rw [← Int.mul_emod]; omega
theorem wrapU_neg (x : Int) : IntKind.i64.wrap (IntKind.u64.wrap (0 - IntKind.u64.wrap x)) = IntKind.i64.wrap (x.tdiv (-1)) := by
 rw [show x.tdiv (-1) = -x by rw [Int.tdiv_neg, Int.tdiv_one]]
 simp only [wrap_s, wrap_u]; omega
theorem fitU {x y : Int} (hx : is64 x) (hx0 : x ≠ 0) (hy0 : y ≠ 0) : decide ((x.natAbs : Int) ≤ IntKind.u64.wrap ((if (decide (x < 0) == decide (y < 0)) = true then 9223372036854775807 else 9223372036854775808 : Int).tdiv (y.natAbs : Int))) = decide (fit3 2 x y) := by
 rw [decide_eq_decide, ← fitMul x y hx0 hy0]
 obtain ⟨l, hl⟩ : ∃ l : Nat, (if decide (x < 0) = decide (y < 0) then 9223372036854775807 else 9223372036854775808) = l := ⟨_, rfl⟩
 have hl2 : (if (decide (x < 0) == decide (y < 0)) = true then 9223372036854775807 else 9223372036854775808 : Int) = (l : Int) := by
  rw [← hl]
  by_cases h : decide (x < 0) = decide (y < 0)
  ·rw [if_pos h, if_pos (by simpa using h)]; rfl
  ·rw [if_neg h, if_neg (by simpa using h)]; rfl
 have hll : l ≤ 9223372036854775808 := by rw [← hl]; split <;> omega
 rw [hl, hl2, show ((l : Int)).tdiv (y.natAbs : Int) = ((l / y.natAbs : Nat) : Int) from rfl, wrap_u]
 have h3 := Nat.div_le_self l y.natAbs
 generalize l / y.natAbs = q at h3 ⊢
 omega
theorem far_wrap {b : Rng} (hb : ok64 b) (h : ¬ (b.1 = 0 ∧ b.2 = 0)) : IntKind.i64.wrap (IntKind.u64.wrap ((if (b.1.natAbs : Int) < (b.2.natAbs : Int) then (b.2.natAbs : Int) else (b.1.natAbs : Int)) - 1)) = far b := by
 have h1 := hb.1; have h2 := hb.2
 unfold is64 at h1 h2
 unfold far imax
 rw [wrap_s, wrap_u]
 (repeat' split) <;> omega
theorem far_rng {b : Rng} (hb : ok64 b) (h : ¬ (b.1 = 0 ∧ b.2 = 0)) : 0 ≤ far b ∧ far b ≤ 9223372036854775807 := by
 have h1 := hb.1; have h2 := hb.2
 unfold is64 at h1 h2
 unfold far imax
 (repeat' split) <;> omega
theorem div_fits {a b : Rng} (na : a.1 ≤ a.2) (ha : ok64 a) (hno : ¬ (a.1 = m64 ∧ b.1 ≤ -1 ∧ -1 ≤ b.2)) {x y : Int} (hx : x = a.1 ∨ x = a.2) (hy : b.1 ≤ y ∧ y ≤ b.2) : fitD x y = true := by
 have h1 := ha.1
 unfold is64 at h1
 unfold fitD m64 at *
 simp only [ne_eq, Bool.or_eq_true, qy]
 omega
end Go.Proofs.YtjnpcfpecilejaaGreatDoor
