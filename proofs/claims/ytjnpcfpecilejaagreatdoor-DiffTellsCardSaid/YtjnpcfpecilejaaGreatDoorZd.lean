/- The document's ranges. Of int64s. -/
import Derived.Test.YtjnpcfpecilejaaGreatDoorZc
set_option linter.unusedVariables false
set_option linter.unusedSimpArgs false
set_option linter.unusedSectionVars false
namespace Go.Proofs.YtjnpcfpecilejaaGreatDoor
open Go.Proofs.Tryz
open Go.Proofs
variable {E : World}
set_option maxRecDepth 20000
theorem indexFuncJ_spec {p : Int → Bool} {fn : FuncId} {c : List AV} (xs : List Int) (hl : xs.length ≤ 281474976710656) (hp : ∀ x ∈ xs, AFun Tryz.prog E fn ([.int .i64 x] ++ c) (.bool (p x))) :
  AFun Tryz.prog E 148 [.fro 1 (xs.map encI), .fn fn [] c] (.int .i64 (firstI p xs 0)) := by
 refine zp func148 rfl (by decide) rfl<|zb<|z8 rfl<|z2 (zAi rfl)<|z6<|zb<|zb<|z8 rfl<|z2 (zMf rfl)<|z2 (y5 underlying23 rfl)<|z2 (zMi rfl)<|z6<|zi<|ya (γ := Nat) [0, 1, 7] (fun k => [(8, .int .i64 k)]) (fun k => []) (fun k => k ≤ xs.length ∧ (xs.take k).all (fun x => !p x)) (fun k => xs.length - k) 0 zR1 zLe (⟨qi _, rfl⟩) ?_
 rintro k ⟨hk, hall⟩
 refine zb<|z8 rfl<|z2 (ye rfl rfl)<|z6<|zb<|zr rfl (fun ck => ?_) (fun ck => ?_)
 ·have hk2 : k < xs.length := by omega
  refine ze<|zb<|zi<|zb<|z8 rfl<|z2 (zMi rfl)<|z2 (zAi rfl)<|z6<|zb<|z8 rfl<|z2 (zq (v := .fn _ _ _) rfl)<|z2 (zMf rfl)<|z2 (zMi rfl)<|z2 (y6 underlying23 sizeOf3 rfl rfl rfl (qf (by omega)))<|z2 (zLi isAgg3 rfl)<|AOps.callVP rfl (hp _ (qj hk2)) rfl<|z6<|zy rfl (fun cp => ?_) (fun cp => ?_)
  ·refine zb<|z8 rfl<|z2 (zMi rfl)<|z2 (zAi rfl)<|z6<|zh<|zk (x := .int _ _) rfl ?_
   rw [firstI_drop p xs k hk hall, List.drop_eq_getElem_cons hk2, firstI, if_pos cp]
  ·refine ze<|z8 rfl<|z2 (yb rfl rfl (by unfold I64; omega))<|z2 (zMi rfl)<|z6 ?_
   exact ⟨k + 1, zR3, zR1, zLe, ⟨hk2, by rw [qg hk2, List.all_append, hall]; simp [cp]⟩, by omega⟩
 ·have hkn : k = xs.length := by omega
  refine y8<|zb<|z8 rfl<|z2 (zAi rfl)<|z6<|zh<|zk (x := .int _ _) rfl ?_
  rw [firstI_drop p xs k hk hall, hkn, List.drop_length, firstI]
theorem containsFuncJ_spec {p : Int → Bool} {fn : FuncId} {c : List AV} (xs : List Int) (hl : xs.length ≤ 281474976710656) (hp : ∀ x ∈ xs, AFun Tryz.prog E fn ([.int .i64 x] ++ c) (.bool (p x))) :
  AFun Tryz.prog E 98 [.fro 1 (xs.map encI), .fn fn [] c] (.bool (xs.any p)) := by
 refine zp func98 rfl (by decide) rfl<|zb<|z8 rfl<|z2 (zAb rfl)<|z6<|zb<|z8 rfl<|z2 (zMf rfl)<|z2 (zq (v := .fn _ _ _) rfl)<|zg (indexFuncJ_spec xs hl hp) rfl<|z2 (qb rfl rfl)<|z2 (zAb rfl)<|z6<|zh<|zk (x := .bool _) rfl ?_
 rw [firstI_ge]
def kindV (f : PFunc) (v : Int) : Int := ((f.vars[v.toNat]?).map (·.ty)).getD 0
theorem hasV_get {f : PFunc} {v : Int} (h : hasV f v = true) : ∃ x, f.vars[v.toNat]? = some x ∧ v = (v.toNat : Int) ∧ kindV f v = x.ty := by
 unfold hasV at h
 simp only [qs, qt] at h
 have hl : v.toNat < f.vars.length := by omega
 refine ⟨f.vars[v.toNat], qf hl, by omega, ?_⟩
 unfold kindV; rw [qf hl]; rfl
theorem kind_spec (f : PFunc) (v : Int) (hv : hasV f v = true) : AFun Tryz.prog E 168 [.agg (encF f), .int .i64 v] (.int .i64 (kindV f v)) := by
 obtain ⟨x, hx, hv2, hk⟩ := hasV_get hv
 rw [hk]
 refine zp func168 rfl (by decide) rfl<|zb<|z8 rfl<|yc (cs := _) rfl rfl rfl<|z2 (zAi rfl)<|z6<|zb<|z8 rfl<|z2 (zc underlying26 rfl sizeOf22 (by decide) rfl rfl)<|z2 (zLf isAgg22 rfl)<|z2 (zMi rfl)<|z2 (y6 (j := v.toNat) underlying22 sizeOf56 rfl rfl hv2 hx)<|z2 (zc underlying56 rfl sizeOf54 (by decide) rfl rfl)<|z2 (zLi isAgg54 rfl)<|z2 (zAi rfl)<|z6<|zh<|zk (x := .int _ _) rfl ?_
 rfl
theorem any_spec (op : Int) : AFun Tryz.prog E 169 [.int .i64 op] (.bool (decide (op = 1))) := by
 refine zp func169 rfl (by decide) rfl<|zb<|z8 rfl<|z2 (zAb rfl)<|z6<|zb<|z8 rfl<|z2 (zMi rfl)<|z2 (y3 rfl rfl)<|z2 (zAb rfl)<|z6<|zh<|zk (x := .bool _) rfl ?_
 simp_all
theorem headD_at : ∀ {l : List Int} (h : 0 < l.length), l.headD 0 = l[0]
 | [], h => absurd h (Nat.lt_irrefl 0)
 | _ :: _, _ => rfl
def instT (f : PFunc) (x : PInst) : Bool := if x.op = 1 then decide (kindV f x.dst = kindV f (x.args.headD 0)) else decide (x.args.map (kindV f) = takesL x.op) && (!makesB x.op || decide (kindV f x.dst = makesT x.op))
theorem map_take_succ {f : PFunc} {xs ts : List Int} {k : Nat} (h1 : k < xs.length) (h2 : k < ts.length) (h : (xs.take k).map (kindV f) = ts.take k) (hk : kindV f xs[k] = ts[k]) : (xs.take (k + 1)).map (kindV f) = ts.take (k + 1) := by
 rw [qg h1, qg h2, List.map_append, h, List.map_cons, List.map_nil, hk]
theorem map_ne {f : PFunc} {xs ts : List Int} {k : Nat} (h1 : k < xs.length) (h2 : k < ts.length) (hk : ¬ kindV f xs[k] = ts[k]) : ¬ xs.map (kindV f) = ts := by
 intro e
 apply hk
 subst e
 rw [List.getElem_map]
theorem yinst_spec (f : PFunc) (x : PInst) (ha : x.args.all (hasV f) = true) (hl : x.args.length = (takesL x.op).length) (hd : makesB x.op = true → hasV f x.dst = true) :
  AFun Tryz.prog E 116 [.agg (encF f), .agg (encInst x)] (.bool (instT f x)) := by
 have hlen : (takesL x.op).length ≤ 3 := by
  rcases kRow_mem x.op with h | h
  ·unfold takesL; rw [h]; decide
  ·have : ∀ r ∈ kindT, r.2.1.data.toList.length ≤ 3 := by decide
   have := this _ h
   unfold takesL; simpa using this
 refine zp func116 rfl (by decide) rfl<|zb<|z8 rfl<|yc (cs := _) rfl rfl rfl<|yc (cs := _) rfl rfl rfl<|z2 (zAb rfl)<|z6<|zb<|zb<|z8 rfl<|z2 (zc underlying33 rfl sizeOf31 (by decide) rfl rfl)<|z2 (zLi isAgg31 rfl)<|zg (any_spec _) rfl<|z6<|zr rfl (fun c1 => ?_) (fun c1 => ?_)
 ·have e1 : x.op = 1 := by simpa using c1
  have hlz : 0 < x.args.length := by rw [hl, e1]; decide
  have hv0 : hasV f x.args[0] = true := List.all_eq_true.1 ha _ (qj hlz)
  have hvd : hasV f x.dst = true := hd (by rw [e1]; decide)
  refine zb<|y7 (fun j => false) (by kernel_rfl) rfl (zo (.rest _))<|zTk (i := 0) rfl (zn isAgg26 sizeOf26 rfl rfl)<|zTk (i := 1) rfl (zc underlying33 rfl sizeOf3 (by decide) rfl rfl)<|zTk (i := 2) rfl (zLi isAgg3 rfl)<|zTk (i := 4) rfl (zn isAgg26 sizeOf26 rfl rfl)<|zTk (i := 5) rfl (zc underlying33 rfl sizeOf23 (by decide) rfl rfl)<|zTk (i := 6) rfl (zLf isAgg23 rfl)<|zTk (i := 7) rfl (y6 (j := 0) underlying23 sizeOf3 rfl rfl rfl (qf hlz))<|zTk (i := 8) rfl (zLi isAgg3 rfl)<|zOn (i := 3) rfl<|zg (kind_spec _ _ (by assumption)) rfl<|z6<|zOn (i := 9) rfl<|zg (kind_spec _ _ (by assumption)) rfl<|z6<|zTk (i := 10) rfl (y3 rfl rfl)<|zTk (i := 11) rfl (zAb rfl)<|zDn<|zh<|zk (x := .bool _) rfl ?_
  exact jb (by unfold instT; rw [if_pos e1, headD_at hlz])
 ·have e1 : ¬ x.op = 1 := by simpa using c1
  refine ze<|zb<|zb<|z8 rfl<|z2 (zc underlying33 rfl sizeOf31 (by decide) rfl rfl)<|z2 (zLi isAgg31 rfl)<|zg (takes_spec _) rfl<|z2 (y5 underlying217 rfl)<|z2 (zMi rfl)<|z6<|zi<|ya (γ := Nat) [2, 3, 25, 26] (fun k => [(27, .int .i64 k)]) (fun k => []) (fun k => k ≤ (takesL x.op).length ∧ (x.args.take k).map (kindV f) = (takesL x.op).take k) (fun k => (takesL x.op).length - k) 0 zR1 zLe (⟨qi _, rfl⟩) ?_
  rintro k ⟨hk, hall⟩
  refine zb<|z8 rfl<|z2 (ye rfl rfl)<|z6<|zb<|zr rfl (fun ck => ?_) (fun ck => ?_)
  ·have hk2 : k < (takesL x.op).length := by simp at ck; omega
   have hk3 : k < x.args.length := by omega
   have hvk : hasV f x.args[k] = true := List.all_eq_true.1 ha _ (qj hk3)
   refine ze<|zb<|zi<|zb<|z8 rfl<|z2 (zMi rfl)<|z2 (y6 (j := k) underlying217 sizeOf54 rfl rfl rfl (qf hk2))<|z2 (zLi isAgg54 rfl)<|z2 (zAi rfl)<|z2 (zAi rfl)<|z6<|zb<|y7 (fun j => false) (by kernel_rfl) rfl (zo (.rest _))<|zTk (i := 0) rfl (zn isAgg26 sizeOf26 rfl rfl)<|zTk (i := 1) rfl (zc underlying33 rfl sizeOf23 (by decide) rfl rfl)<|zTk (i := 2) rfl (zLf isAgg23 rfl)<|zTk (i := 3) rfl (zMi rfl)<|zTk (i := 4) rfl (y6 (j := k) underlying23 sizeOf3 rfl rfl rfl (qf hk3))<|zTk (i := 5) rfl (zLi isAgg3 rfl)<|zTk (i := 7) rfl (zMi rfl)<|zOn (i := 6) rfl<|zg (kind_spec _ _ (by assumption)) rfl<|z6<|zTk (i := 8) rfl (yl rfl rfl)<|zDn<|zy rfl (fun cn => ?_) (fun cn => ?_)
   ·refine zb<|z8 rfl<|z2 (zAb rfl)<|z6<|zh<|zk (x := .bool _) rfl ?_
    exact jb (by unfold instT; rw [if_neg e1, qr (map_ne hk3 hk2 (by simpa using cn))]; rfl)
   ·refine ze<|z8 rfl<|z2 (yb rfl rfl (by unfold I64; omega))<|z2 (zMi rfl)<|z6 ?_
    exact ⟨k + 1, zR4, zR1, zLe, ⟨hk2, map_take_succ hk3 hk2 hall (by simpa using cn)⟩, by omega⟩
  ·have hkn : k = (takesL x.op).length := by simp at ck; omega
   subst hkn
   rw [qk, ← hl, qk] at hall
   refine y8<|zb<|z8 rfl<|z2 (zc underlying33 rfl sizeOf31 (by decide) rfl rfl)<|z2 (zLi isAgg31 rfl)<|zg (makes_spec _) rfl<|z2 (zq (v := .tup _) rfl)<|z2 (yj (v := .int _ _) rfl rfl)<|z2 (yj (v := .bool _) rfl rfl)<|z2 (zAi rfl)<|z2 (zAb rfl)<|z6<|zb<|z8 rfl<|z2 (zMb rfl)<|z2 (yg rfl)<|z2 (zMb rfl)<|zm (s := 50) rfl (fun c1 => ?_) (fun c1 => ?_)
   ·refine z7 rfl rfl c1<|z7 rfl rfl c1<|z7 rfl rfl c1<|z7 rfl rfl c1<|z7 rfl rfl c1<|z7 rfl rfl c1<|z2 (zPt rfl c1 rfl)<|z2 (zAb rfl)<|z6<|zh<|zk (x := .bool _) rfl ?_
    exact jb (by unfold instT; rw [if_neg e1, qq hall]; simp_all)
   ·refine za rfl rfl c1<|z2 (zn isAgg26 sizeOf26 rfl rfl)<|za rfl rfl c1<|z2 (zc underlying33 rfl sizeOf3 (by decide) rfl rfl)<|za rfl rfl c1<|z2 (zLi isAgg3 rfl)<|za rfl rfl c1<|zg (kind_spec f x.dst (hd (by simp_all))) rfl<|za rfl rfl c1<|z2 (zMi rfl)<|za rfl rfl c1<|z2 (y3 rfl rfl)<|z2 (zPf rfl c1 rfl)<|z2 (zAb rfl)<|z6<|zh<|zk (x := .bool _) rfl ?_
    exact jb (by unfold instT; rw [if_neg e1, qq hall]; simp_all)
def phiT (f : PFunc) (p : PPhi) : Bool := !(p.args.any fun v => !decide (kindV f v = kindV f p.dst))
theorem yphi1_spec (f : PFunc) (p : PPhi) (v : Int) (hv : hasV f v = true) (hd : hasV f p.dst = true) : AFun Tryz.prog E 167 ([.int .i64 v] ++ [.pf (encF f), .pf (encPhi p)]) (.bool (!decide (kindV f v = kindV f p.dst))) := by
 refine zp func167 rfl (by decide) rfl<|zb<|z8 rfl<|z2 (zAb rfl)<|z6<|zb<|y7 (fun j => false) (by kernel_rfl) rfl (zo (.rest _))<|zTk (i := 0) rfl (zn isAgg26 sizeOf26 rfl rfl)<|zTk (i := 1) rfl (zMi rfl)<|zTk (i := 3) rfl (zn isAgg26 sizeOf26 rfl rfl)<|zTk (i := 4) rfl (zc underlying95 rfl sizeOf3 (by decide) rfl rfl)<|zTk (i := 5) rfl (zLi isAgg3 rfl)<|zOn (i := 2) rfl<|zg (kind_spec _ _ (by assumption)) rfl<|z6<|zOn (i := 6) rfl<|zg (kind_spec _ _ (by assumption)) rfl<|z6<|zTk (i := 7) rfl (yl rfl rfl)<|zTk (i := 8) rfl (zAb rfl)<|zDn<|zh<|zk (x := .bool _) rfl ?_
 simp_all
theorem yphi_spec (f : PFunc) (p : PPhi) (hp : okPhi p) (ha : p.args.all (hasV f) = true) (hd : hasV f p.dst = true) : AFun Tryz.prog E 115 [.agg (encF f), .agg (encPhi p)] (.bool (phiT f p)) := by
 have hl1 := hp.1.lt
 refine zp func115 rfl (by decide) rfl<|zb<|z8 rfl<|yc (cs := _) rfl rfl rfl<|yc (cs := _) rfl rfl rfl<|z2 (zAb rfl)<|z6<|zb<|z8 rfl<|z2 (zc underlying95 rfl sizeOf23 (by decide) rfl rfl)<|z2 (zLf isAgg23 rfl)<|z2 (Gv.func rfl rfl)<|zg (containsFuncJ_spec p.args (by omega) (fun v hv => yphi1_spec f p v (List.all_eq_true.1 ha v hv) hd)) rfl<|z2 (yg rfl)<|z2 (zAb rfl)<|z6<|zh<|zk (x := .bool _) rfl ?_
 rfl
def termT (f : PFunc) (t : PTerm) : Bool := if t.kind = 0 then !decide (t.to0 = 0) else if t.kind = 1 then decide (kindV f t.var = 1) && !decide (t.to0 = 0) && !decide (t.to1 = 0) else decide (kindV f t.var = 0)
theorem yterm_spec (f : PFunc) (t : PTerm) (h : ¬ t.kind = 0 → hasV f t.var = true) : AFun Tryz.prog E 117 [.agg (encF f), .agg (encTerm t)] (.bool (termT f t)) := by
 refine zp func117 rfl (by decide) rfl<|zb<|z8 rfl<|yc (cs := _) rfl rfl rfl<|yc (cs := _) rfl rfl rfl<|z2 (zAb rfl)<|z6<|zb<|zb<|z8 rfl<|z2 (zc underlying64 rfl sizeOf61 (by decide) rfl rfl)<|z2 (zLi isAgg61 rfl)<|z6<|zi<|zb<|z8 rfl<|z2 (y3 rfl rfl)<|z2 (zAb rfl)<|z6<|zy rfl (fun c2 => ?_) (fun c2 => ?_)
 ·refine zb<|z8 rfl<|z2 (zc underlying64 rfl sizeOf62 (by decide) rfl rfl)<|z2 (yo (j := 0) underlying62 sizeOf3 rfl rfl rfl (by decide) rfl)<|z2 (zLi isAgg3 rfl)<|z2 (yl rfl rfl)<|z2 (zAb rfl)<|z6<|zh<|zk (x := .bool _) rfl ?_
  exact jb (by unfold termT; simp_all)
 ·refine zb<|z8 rfl<|z2 (y3 rfl rfl)<|z2 (zAb rfl)<|z6<|zy rfl (fun c3 => ?_) (fun c3 => ?_)
  ·refine zb<|z8 rfl<|z2 (zn isAgg26 sizeOf26 rfl rfl)<|z2 (zc underlying64 rfl sizeOf3 (by decide) rfl rfl)<|z2 (zLi isAgg3 rfl)<|zg (kind_spec f t.var (h (by simp_all))) rfl<|z2 (y3 rfl rfl)<|z2 (zMb rfl)<|zm (s := 20) rfl (fun c4 => ?_) (fun c4 => ?_)
   ·refine za rfl rfl c4<|z2 (zc underlying64 rfl sizeOf62 (by decide) rfl rfl)<|za rfl rfl c4<|z2 (yo (j := 0) underlying62 sizeOf3 rfl rfl rfl (by decide) rfl)<|za rfl rfl c4<|z2 (zLi isAgg3 rfl)<|za rfl rfl c4<|z2 (yl rfl rfl)<|z2 (zPt rfl c4 rfl)<|z2 (zMb rfl)<|zm (s := 26) rfl (fun c5 => ?_) (fun c5 => ?_)
    ·refine za rfl rfl c5<|z2 (zc underlying64 rfl sizeOf62 (by decide) rfl rfl)<|za rfl rfl c5<|z2 (yo (j := 1) underlying62 sizeOf3 rfl rfl rfl (by decide) rfl)<|za rfl rfl c5<|z2 (zLi isAgg3 rfl)<|za rfl rfl c5<|z2 (yl rfl rfl)<|z2 (zPt rfl c5 rfl)<|z2 (zAb rfl)<|z6<|zh<|zk (x := .bool _) rfl ?_
     exact jb (by unfold termT; simp_all)
    ·refine z7 rfl rfl c5<|z7 rfl rfl c5<|z7 rfl rfl c5<|z7 rfl rfl c5<|z2 (zPf rfl c5 rfl)<|z2 (zAb rfl)<|z6<|zh<|zk (x := .bool _) rfl ?_
     exact jb (by unfold termT; simp_all)
   ·refine z7 rfl rfl c4<|z7 rfl rfl c4<|z7 rfl rfl c4<|z7 rfl rfl c4<|z2 (zPf rfl c4 rfl)<|z2 (zMb rfl)<|z7 rfl rfl rfl<|z7 rfl rfl rfl<|z7 rfl rfl rfl<|z7 rfl rfl rfl<|z2 (zPf rfl rfl rfl)<|z2 (zAb rfl)<|z6<|zh<|zk (x := .bool _) rfl ?_
    exact jb (by unfold termT; simp_all)
  ·refine ze<|zb<|z8 rfl<|z2 (zn isAgg26 sizeOf26 rfl rfl)<|z2 (zc underlying64 rfl sizeOf3 (by decide) rfl rfl)<|z2 (zLi isAgg3 rfl)<|zg (kind_spec f t.var (h (by simp_all))) rfl<|z2 (y3 rfl rfl)<|z2 (zAb rfl)<|z6<|zh<|zk (x := .bool _) rfl ?_
   exact jb (by unfold termT; simp_all)
end Go.Proofs.YtjnpcfpecilejaaGreatDoor
namespace Go.Proofs.YtjnpcfpecilejaaGreatDoor
open Go.Proofs.Tryz
abbrev Rng := Int × Int
def m64 : Int := -9223372036854775808
def M64 : Int := 9223372036854775807
def is64 (x : Int) : Prop := -9223372036854775808 ≤ x ∧ x ≤ 9223372036854775807
instance (x : Int) : Decidable (is64 x) := by unfold is64; infer_instance
def ok64 (r : Rng) : Prop := is64 r.1 ∧ is64 r.2
def noR : Rng := (1, 0)
def rMade (lo hi : Int) : Rng := if hi < lo then noR else (lo, hi)
def imin (a b : Int) : Int := if b < a then b else a
def imax (a b : Int) : Int := if a < b then b else a
def rJoin (a b : Rng) : Rng := if a.2 < a.1 then rMade b.1 b.2 else if b.2 < b.1 then a else (imin a.1 b.1, imax a.2 b.2)
def rMeet (a b : Rng) : Rng := rMade (imax a.1 b.1) (imin a.2 b.2)
def rType (t : Int) : Rng := if t = 0 then (m64, M64) else if t = 1 then (0, 1) else if t = 2 then (0, 64) else noR
theorem rMade_ok {lo hi : Int} (h1 : is64 lo) (h2 : is64 hi) : ok64 (rMade lo hi) := by
 unfold rMade; split
 ·exact ⟨by decide, by decide⟩
 ·exact ⟨h1, h2⟩
theorem imin_ok {a b : Int} (h1 : is64 a) (h2 : is64 b) : is64 (imin a b) := by unfold imin; split <;> assumption
theorem imax_ok {a b : Int} (h1 : is64 a) (h2 : is64 b) : is64 (imax a b) := by unfold imax; split <;> assumption
theorem rMeet_ok {a b : Rng} (h1 : ok64 a) (h2 : ok64 b) : ok64 (rMeet a b) := rMade_ok (imax_ok h1.1 h2.1) (imin_ok h1.2 h2.2)
theorem rType_ok (t : Int) : ok64 (rType t) := by
 unfold rType; split
 ·exact ⟨by decide, by decide⟩
 ·split
  ·exact ⟨by decide, by decide⟩
  ·split
   ·exact ⟨by decide, by decide⟩
   ·exact ⟨by decide, by decide⟩
def op3 (k : Nat) (x y : Int) : Int := if k = 0 then x + y else if k = 1 then x - y else x * y
def fit3 (k : Nat) (x y : Int) : Prop := is64 (op3 k x y)
instance (k : Nat) (x y : Int) : Decidable (fit3 k x y) := by unfold fit3; infer_instance
def near3 (k : Nat) (x y : Int) : Int := if (if k = 2 then decide (x < 0) != decide (y < 0) else decide (x < 0)) then m64 else M64
def one3 (k : Nat) (x y : Int) : Int := if fit3 k x y then op3 k x y else near3 k x y
def rOf (n : Int) : Rng := (n, n)
def cornR (k : Nat) (a b : Rng) : Rng := rJoin (rJoin (rJoin (rJoin noR (rOf (one3 k a.1 b.1))) (rOf (one3 k a.1 b.2))) (rOf (one3 k a.2 b.1))) (rOf (one3 k a.2 b.2))
def cornF (k : Nat) (a b : Rng) : Prop := fit3 k a.1 b.1 ∧ fit3 k a.1 b.2 ∧ fit3 k a.2 b.1 ∧ fit3 k a.2 b.2
instance (k : Nat) (a b : Rng) : Decidable (cornF k a b) := by unfold cornF; infer_instance
def hullQ (a b : Int) : Rng := if b < a then (b, a) else (a, b)
def wideQ (a b : Rng) : Rng := (if b.1 < a.1 then b.1 else a.1, if a.2 < b.2 then b.2 else a.2)
def clipQ (k : Nat) (a b : Rng) : Rng := wideQ (hullQ (one3 k a.1 b.1) (one3 k a.1 b.2)) (hullQ (one3 k a.2 b.1) (one3 k a.2 b.2))
theorem join_first (p : Int) : rJoin noR (rOf p) = (p, p) := by
 unfold rJoin rOf noR rMade
 rw [if_pos (by decide)]
 rw [if_neg (by dsimp only; omega)]
theorem join_next {lo hi : Int} (h : lo ≤ hi) (q : Int) : rJoin (lo, hi) (rOf q) = (imin lo q, imax hi q) ∧ imin lo q ≤ imax hi q := by
 unfold rJoin rOf
 rw [if_neg (by dsimp only; omega), if_neg (by dsimp only; omega)]
 refine ⟨rfl, ?_⟩
 unfold imin imax; split <;> split <;> omega
theorem join4 (p q r s : Int) : rJoin (rJoin (rJoin (rJoin noR (rOf p)) (rOf q)) (rOf r)) (rOf s) = wideQ (hullQ p q) (hullQ r s) := by
 obtain ⟨e2, h2⟩ := join_next (Int.le_refl p) q
 obtain ⟨e3, h3⟩ := join_next h2 r
 obtain ⟨e4, _⟩ := join_next h3 s
 rw [join_first, e2, e3, e4]
 unfold hullQ wideQ imin imax
 rw [Prod.ext_iff]
 by_cases c1 : q < p <;> by_cases c2 : s < r <;> simp only [c1, c2, if_true, if_false] <;> constructor <;> (repeat' split) <;> omega
theorem corn_eq (k : Nat) (a b : Rng) : cornR k a b = clipQ k a b := join4 _ _ _ _
theorem mul_fit {x y : Nat} (hy : 0 < y) (l : Nat) : x ≤ l / y ↔ x * y ≤ l := Nat.le_div_iff_mul_le hy
theorem natAbs_mul_le (a b : Int) (l : Nat) : a.natAbs ≤ l / b.natAbs ↔ (b = 0 ∧ a = 0) ∨ (b ≠ 0 ∧ (a * b).natAbs ≤ l) := by
 by_cases hb : b = 0
 ·subst hb; simp
 ·rw [mul_fit (by omega), Int.natAbs_mul]; simp [hb]
theorem sign_mul {a b : Int} (ha : a ≠ 0) (hb : b ≠ 0) : (0 < a * b ↔ ((a < 0) ↔ (b < 0))) ∧ a * b ≠ 0 := by
 refine ⟨?_, Int.mul_ne_zero ha hb⟩
 rcases Int.lt_or_gt_of_ne ha with h1 | h1 <;> rcases Int.lt_or_gt_of_ne hb with h2 | h2
 ·have := Int.mul_pos_of_neg_of_neg h1 h2; simp [this, h1, h2]
 ·have := Int.mul_neg_of_neg_of_pos h1 h2
  constructor
  ·intro h; omega
  ·intro h; have := h.1 h1; omega
 ·have := Int.mul_neg_of_pos_of_neg h1 h2
  constructor
  ·intro h; omega
  ·intro h; have := h.2 h2; omega
 ·have := Int.mul_pos h1 h2
  constructor
  ·intro _; constructor <;> intro h <;> omega
  ·intro _; exact this
theorem fitMul (a b : Int) (ha : a ≠ 0) (hb : b ≠ 0) : (a.natAbs ≤ (if decide (a < 0) = decide (b < 0) then 9223372036854775807 else 9223372036854775808) / b.natAbs) ↔ fit3 2 a b := by
 have hs := sign_mul ha hb
 rw [natAbs_mul_le]
 unfold fit3 is64
 have e : op3 2 a b = a * b := rfl
 rw [e]
 simp only [hb, false_and, false_or, ne_eq, not_false_eq_true, true_and]
 by_cases h : decide (a < 0) = decide (b < 0)
 ·rw [if_pos h]
  have : (a < 0) ↔ (b < 0) := by simpa using h
  have h1 := hs.1.2 this
  omega
 ·rw [if_neg h]
  have : ¬ ((a < 0) ↔ (b < 0)) := by simpa using h
  have h1 : ¬ 0 < a * b := fun h2 => this (hs.1.1 h2)
  omega
end Go.Proofs.YtjnpcfpecilejaaGreatDoor
namespace Go.Proofs.YtjnpcfpecilejaaGreatDoor
open Go.Proofs.Tryz
def rSub (r s : Rng) : Prop := r.2 < r.1 ∨ (s.1 ≤ r.1 ∧ r.2 ≤ s.2)
theorem rSub.refl (r : Rng) : rSub r r := .inr ⟨Int.le_refl _, Int.le_refl _⟩
theorem rSub.trans {r s t : Rng} (h : rSub r s) (k : rSub s t) : rSub r t := by
 rcases h with h | h
 ·exact .inl h
 ·rcases k with k | k
  ·exact .inl (by omega)
  ·exact .inr (by omega)
end Go.Proofs.YtjnpcfpecilejaaGreatDoor
namespace Go.Proofs.YtjnpcfpecilejaaGreatDoor
open Go.Proofs.Tryz
end Go.Proofs.YtjnpcfpecilejaaGreatDoor
namespace Go.Proofs.YtjnpcfpecilejaaGreatDoor
open Go.Proofs.Tryz
end Go.Proofs.YtjnpcfpecilejaaGreatDoor
namespace Go.Proofs.YtjnpcfpecilejaaGreatDoor
open Go.Proofs.Tryz
def allR : Rng := (m64, M64)
def ra (rs : List Rng) (i : Nat) : Rng := (rs[i]?).getD (0, 0)
structure Less (a a' : Rng) : Prop where
 ok : ok64 a
 ok' : ok64 a'
 ne : a.1 ≤ a.2
 sub : a'.1 ≤ a.1 ∧ a.2 ≤ a'.2
theorem Less.zero : Less (0, 0) (0, 0) := ⟨⟨by decide, by decide⟩, ⟨by decide, by decide⟩, by decide, by decide, by decide⟩
end Go.Proofs.YtjnpcfpecilejaaGreatDoor
namespace Go.Proofs.YtjnpcfpecilejaaGreatDoor
open Go.Proofs.Tryz
def hAdd (h : Rng × Bool) (n : Int) (fits : Bool) (e : Int) : Rng × Bool := (rJoin h.1 (rOf (if fits then n else e)), h.2 || !fits)
def h4 (h : Rng × Bool) (a b : Rng) (n : Int → Int → Int) (fit : Int → Int → Bool) (e : Int → Int → Int) : Rng × Bool :=
 hAdd (hAdd (hAdd (hAdd h (n a.1 b.1) (fit a.1 b.1) (e a.1 b.1)) (n a.1 b.2) (fit a.1 b.2) (e a.1 b.2)) (n a.2 b.1) (fit a.2 b.1) (e a.2 b.1)) (n a.2 b.2) (fit a.2 b.2) (e a.2 b.2)
instance (k : Nat) (x y : Int) : Decidable (fit3 k x y) := by unfold fit3 is64; infer_instance
instance (k : Nat) (a b : Rng) : Decidable (cornF k a b) := by unfold cornF; infer_instance
def cornP (k : Nat) (a b : Rng) : Rng × Bool := h4 (noR, false) a b (op3 k) (fun x y => decide (fit3 k x y)) (near3 k)
theorem cornP_eq (k : Nat) (a b : Rng) : cornP k a b = (clipQ k a b, !decide (cornF k a b)) := by
 rw [← corn_eq]
 unfold cornP h4 hAdd cornR cornF one3
 simp only [Bool.false_or, qt]
 refine Prod.ext rfl ?_
 dsimp only
 by_cases h1 : fit3 k a.1 b.1 <;> by_cases h2 : fit3 k a.1 b.2 <;> by_cases h3 : fit3 k a.2 b.1 <;> by_cases h4 : fit3 k a.2 b.2 <;> simp [h1, h2, h3, h4]
end Go.Proofs.YtjnpcfpecilejaaGreatDoor
namespace Go.Proofs.YtjnpcfpecilejaaGreatDoor
open Go.Proofs.Tryz
open Go.Proofs
theorem wrap_fit {z : Int} (h : is64 z) : IntKind.i64.wrap z = z := by
 unfold is64 at h
 unfold IntKind.wrap; simp [IntKind.bits, IntKind.signed]; omega
def selR (a : Rng) (i : Nat) : Int := if i = 0 then a.1 else a.2
theorem sel_ok {a : Rng} (h : ok64 a) (i : Nat) : is64 (selR a i) := by unfold selR; split; exact h.1; exact h.2
theorem sel_get {a : Rng} {i : Nat} (h : i < 2) : ([AV.int .i64 a.1, AV.int .i64 a.2] : List AV)[i]? = some (.int .i64 (selR a i)) := by
 rcases (by omega : i = 0 ∨ i = 1) with rfl | rfl <;> rfl
def hSt (n : Int → Int → Int) (fit : Int → Int → Bool) (e : Int → Int → Int) (h0 : Rng × Bool) (a b : Rng) : Nat → Rng × Bool
 | 0 => h0
 | m + 1 => hAdd (hSt n fit e h0 a b m) (n (selR a (m / 2)) (selR b (m % 2))) (fit (selR a (m / 2)) (selR b (m % 2))) (e (selR a (m / 2)) (selR b (m % 2)))
theorem hSt_step {n : Int → Int → Int} {fit : Int → Int → Bool} {e : Int → Int → Int} {h0 : Rng × Bool} {a b : Rng} (i : Nat) {j : Nat} (hj : j < 2) :
  hSt n fit e h0 a b (2 * i + (j + 1)) = hAdd (hSt n fit e h0 a b (2 * i + j)) (n (selR a i) (selR b j)) (fit (selR a i) (selR b j)) (e (selR a i) (selR b j)) := by
 rw [← Nat.add_assoc, hSt, show (2 * i + j) / 2 = i by omega, show (2 * i + j) % 2 = j by omega]
theorem hAdd_fit {h : Rng × Bool} {n n' : Int} {fits : Bool} {e e' : Int} (h1 : fits = true → n = n') (h2 : e = e') : hAdd h n fits e = hAdd h n' fits e' := by
 cases fits
 ·unfold hAdd; simp [h2]
 ·rw [h1 rfl, h2]
theorem add_fit {x y : Int} : decide (fit3 0 x y) = true → IntKind.i64.wrap (x + y) = op3 0 x y := fun h => wrap_fit (of_decide_eq_true h)
theorem sub_fit {x y : Int} : decide (fit3 1 x y) = true → IntKind.i64.wrap (x - y) = op3 1 x y := fun h => wrap_fit (of_decide_eq_true h)
theorem mul_fit3 {x y : Int} : decide (fit3 2 x y) = true → IntKind.i64.wrap (x * y) = op3 2 x y := fun h => wrap_fit (of_decide_eq_true h)
theorem sumB {x y : Int} (hx : is64 x) (hy : is64 y) : (!(decide (x < 0) == decide (y < 0)) || (decide (IntKind.i64.wrap (x + y) < 0) == decide (x < 0))) = decide (fit3 0 x y) := by
 have hw : IntKind.i64.wrap (x + y) = (if x + y < -9223372036854775808 then x + y + 18446744073709551616 else if 9223372036854775807 < x + y then x + y - 18446744073709551616 else x + y) := by
  unfold is64 at hx hy
  unfold IntKind.wrap; simp [IntKind.bits, IntKind.signed]; (repeat' split) <;> omega
 rw [hw, qo, qt]
 show _ ↔ is64 (x + y)
 unfold is64 at *
 simp only [Bool.or_eq_true, Bool.not_eq_true', beq_eq_false_iff_ne, beq_iff_eq, decide_eq_decide, ne_eq]
 (repeat' split) <;> omega
theorem subB {x y : Int} (hx : is64 x) (hy : is64 y) : ((decide (x < 0) == decide (y < 0)) || (decide (IntKind.i64.wrap (x - y) < 0) == decide (x < 0))) = decide (fit3 1 x y) := by
 have hw : IntKind.i64.wrap (x - y) = (if x - y < -9223372036854775808 then x - y + 18446744073709551616 else if 9223372036854775807 < x - y then x - y - 18446744073709551616 else x - y) := by
  unfold is64 at hx hy
  unfold IntKind.wrap; simp [IntKind.bits, IntKind.signed]; (repeat' split) <;> omega
 rw [hw, qo, qt]
 show _ ↔ is64 (x - y)
 unfold is64 at *
 simp only [Bool.or_eq_true, beq_iff_eq, decide_eq_decide]
 (repeat' split) <;> omega
theorem abs_wrap {x : Int} (h : is64 x) : (if x < 0 then IntKind.u64.wrap (0 - IntKind.u64.wrap x) else IntKind.u64.wrap x) = ((x.natAbs : Nat) : Int) := by
 unfold is64 at h
 unfold IntKind.wrap; simp [IntKind.bits, IntKind.signed]; split <;> omega
theorem abs_lt {x : Int} (h : is64 x) : x.natAbs < 18446744073709551616 := by unfold is64 at h; omega
theorem mulB {x y : Int} : (decide (((x.natAbs * y.natAbs / 18446744073709551616 : Nat) : Int) = 0) && decide (((x.natAbs * y.natAbs % 18446744073709551616 : Nat) : Int) ≤ (if (!(decide (x < 0) == decide (y < 0))) = true then 9223372036854775808 else 9223372036854775807))) = decide (fit3 2 x y) := by
 have hm := Int.natAbs_mul x y
 rw [qo, qt (p := fit3 2 x y)]
 show _ ↔ is64 (x * y)
 unfold is64
 rw [← hm]
 have hs : (x < 0 ↔ y < 0) → 0 ≤ x * y := fun h => by
  by_cases hx : x < 0
  ·exact Int.le_of_lt (Int.mul_pos_of_neg_of_neg hx (h.1 hx))
  ·exact Int.mul_nonneg (by omega) (by have := mt h.2 hx; omega)
 have hd : ¬ (x < 0 ↔ y < 0) → x * y ≤ 0 := fun h => by
  by_cases hx : x < 0
  ·have hy : ¬ y < 0 := fun hy => h ⟨fun _ => hy, fun _ => hx⟩
   exact Int.mul_nonpos_of_nonpos_of_nonneg (by omega) (by omega)
  ·have hy : y < 0 := Classical.byContradiction fun hy => h ⟨fun h => absurd h hx, fun h => absurd h hy⟩
   exact Int.mul_nonpos_of_nonneg_of_nonpos (by omega) (by omega)
 generalize x * y = z at *
 simp only [qs, qt, Bool.not_eq_true', beq_eq_false_iff_ne, decide_eq_decide, ne_eq]
 by_cases c : (x < 0 ↔ y < 0)
 ·have := hs c
  rw [if_neg (by simp [c])]; omega
 ·have := hd c
  rw [if_pos c]; omega
theorem near_0 (x y : Int) : (if decide (x < 0) = true then m64 else M64) = near3 0 x y := rfl
theorem near_1 (x y : Int) : (if decide (x < 0) = true then m64 else M64) = near3 1 x y := rfl
theorem near_2 (x y : Int) : (if (!(decide (x < 0) == decide (y < 0))) = true then m64 else M64) = near3 2 x y := rfl
def encZ (r : Rng) : List AV := [.int .i64 r.1, .int .i64 r.2]
def encH (h : Rng × Bool) : List AV := [.int .i64 h.1.1, .int .i64 h.1.2, .bool h.2]
theorem aggR {r : Rng} {x y : Int} (h1 : x = r.1) (h2 : y = r.2) : AV.agg [.int .i64 x, .int .i64 y] = AV.agg (encZ r) := by subst h1 h2; rfl
end Go.Proofs.YtjnpcfpecilejaaGreatDoor
namespace Go.Proofs.YtjnpcfpecilejaaGreatDoor
open Go.Proofs.Tryz
open Go.Proofs
theorem pl74 : Places Tryz.prog 74 #[(0, 1), (1, 1)] [.int .i64 0, .int .i64 0] := ⟨_, _, underlying74, zeroValue74, fun w => by kernel_rfl, rfl⟩
variable {E : World}
set_option maxRecDepth 20000
theorem iNone : AFun Tryz.prog E 68 [] (.agg (encZ noR)) := by
 refine zp func68 rfl (by decide) rfl<|zb<|z8 rfl<|y9 (cs := [.int .i64 0, .int .i64 0]) zeroValue74 rfl rfl<|fun i0 => z6<|zb<|z8 rfl<|z2 (y1 (cps := [(0, [_]), (1, [_])]) (rs := [_, _]) pl74 rfl rfl rfl)<|y4 sizeOf74 rfl rfl rfl rfl rfl rfl .head rfl<|z6<|zh<|yz rfl ⟨_, .head⟩ isAgg74 sizeOf74 rfl ?_
 rfl
theorem iOf (n : Int) : AFun Tryz.prog E 74 [.int .i64 n] (.agg (encZ (rOf n))) := by
 refine zp func74 rfl (by decide) rfl<|zb<|z8 rfl<|y9 (cs := [.int .i64 0, .int .i64 0]) zeroValue74 rfl rfl<|fun i2 => z6<|zb<|z8 rfl<|z2 (zMi rfl)<|z2 (zMi rfl)<|z2 (y1 (cps := [(0, [_]), (1, [_])]) (rs := [_, _]) pl74 rfl rfl rfl)<|y4 sizeOf74 rfl rfl rfl rfl rfl rfl .head rfl<|z6<|zh<|yz rfl ⟨_, .head⟩ isAgg74 sizeOf74 rfl ?_
 rfl
theorem iAll : AFun Tryz.prog E 118 [] (.agg (encZ allR)) := by
 refine zp func118 rfl (by decide) rfl<|zb<|z8 rfl<|y9 (cs := [.int .i64 0, .int .i64 0]) zeroValue74 rfl rfl<|fun i0 => z6<|zb<|z8 rfl<|z2 (y1 (cps := [(0, [_]), (1, [_])]) (rs := [_, _]) pl74 rfl rfl rfl)<|y4 sizeOf74 rfl rfl rfl rfl rfl rfl .head rfl<|z6<|zh<|yz rfl ⟨_, .head⟩ isAgg74 sizeOf74 rfl ?_
 rfl
theorem iType (t : Int) : AFun Tryz.prog E 73 [.int .i64 t] (.agg (encZ (rType t))) := by
 refine zp func73 rfl (by decide) rfl<|zb<|z8 rfl<|y9 (cs := [.int .i64 0, .int .i64 0]) zeroValue74 rfl rfl<|fun i2 => z6<|zb<|zb<|z8 rfl<|z2 (zMi rfl)<|z6<|zi<|zb<|z8 rfl<|z2 (y3 rfl rfl)<|z2 (zAb rfl)<|z6<|zy rfl (fun c1 => ?_) (fun c1 => ?_)
 ·refine zb<|z8 rfl<|zg (iAll) rfl<|y4 sizeOf74 rfl rfl rfl rfl rfl rfl .head rfl<|z6<|zh<|yz rfl ⟨_, .head⟩ isAgg74 sizeOf74 rfl ?_
  exact aggR (by simp_all [rType, allR]) (by simp_all [rType, allR])
 ·refine zb<|z8 rfl<|z2 (y3 rfl rfl)<|z2 (zAb rfl)<|z6<|zy rfl (fun c2 => ?_) (fun c2 => ?_)
  ·refine zb<|z8 rfl<|z2 (y1 (cps := [(0, [_]), (1, [_])]) (rs := [_, _]) pl74 rfl rfl rfl)<|y4 sizeOf74 rfl rfl rfl rfl rfl rfl .head rfl<|z6<|zh<|yz rfl ⟨_, .head⟩ isAgg74 sizeOf74 rfl ?_
   exact aggR (by simp_all [rType, allR]) (by simp_all [rType, allR])
  ·refine zb<|z8 rfl<|z2 (y3 rfl rfl)<|z2 (zAb rfl)<|z6<|zy rfl (fun c3 => ?_) (fun c3 => ?_)
   ·refine zb<|z8 rfl<|z2 (y1 (cps := [(0, [_]), (1, [_])]) (rs := [_, _]) pl74 rfl rfl rfl)<|y4 sizeOf74 rfl rfl rfl rfl rfl rfl .head rfl<|z6<|zh<|yz rfl ⟨_, .head⟩ isAgg74 sizeOf74 rfl ?_
    exact aggR (by simp_all [rType, allR]) (by simp_all [rType, allR])
   ·refine ze<|zb<|z8 rfl<|zg (iNone) rfl<|y4 sizeOf74 rfl rfl rfl rfl rfl rfl .head rfl<|z6<|zh<|yz rfl ⟨_, .head⟩ isAgg74 sizeOf74 rfl ?_
    exact aggR (by simp_all [rType, allR]) (by simp_all [rType, allR])
theorem iMade (lo hi : Int) : AFun Tryz.prog E 131 [.int .i64 lo, .int .i64 hi] (.agg (encZ (rMade lo hi))) := by
 refine zp func131 rfl (by decide) rfl<|zb<|z8 rfl<|y9 (cs := [.int .i64 0, .int .i64 0]) zeroValue74 rfl rfl<|fun i4 => z6<|zb<|zb<|z8 rfl<|z2 (zMi rfl)<|z2 (zMi rfl)<|z2 (yv rfl rfl)<|z6<|zr rfl (fun c => ?_) (fun c => ?_)
 ·refine zb<|z8 rfl<|zg (iNone) rfl<|y4 sizeOf74 rfl rfl rfl rfl rfl rfl .head rfl<|z6<|zh<|yz rfl ⟨_, .head⟩ isAgg74 sizeOf74 rfl ?_
  rw [rMade, if_pos c]; try rfl
 ·refine ze<|zb<|z8 rfl<|z2 (zMi rfl)<|z2 (zMi rfl)<|z2 (y1 (cps := [(0, [_]), (1, [_])]) (rs := [_, _]) pl74 rfl rfl rfl)<|y4 sizeOf74 rfl rfl rfl rfl rfl rfl .head rfl<|z6<|zh<|yz rfl ⟨_, .head⟩ isAgg74 sizeOf74 rfl ?_
  rw [rMade, if_neg c]; try rfl
theorem iMeet (a b : Rng) : AFun Tryz.prog E 81 [.agg (encZ a), .agg (encZ b)] (.agg (encZ (rMeet a b))) := by
 refine zp func81 rfl (by decide) rfl<|zb<|z8 rfl<|yc (cs := _) rfl rfl rfl<|yc (cs := _) rfl rfl rfl<|y9 (cs := [.int .i64 0, .int .i64 0]) zeroValue74 rfl rfl<|fun i4 => z6<|zb<|z8 rfl<|z2 (zc underlying74 rfl sizeOf2 (by decide) rfl rfl)<|z2 (zLi isAgg2 rfl)<|z2 (zc underlying74 rfl sizeOf2 (by decide) rfl rfl)<|z2 (zLi isAgg2 rfl)<|z2 (Gv.maxI rfl rfl)<|z2 (zc underlying74 rfl sizeOf2 (by decide) rfl rfl)<|z2 (zLi isAgg2 rfl)<|z2 (zc underlying74 rfl sizeOf2 (by decide) rfl rfl)<|z2 (zLi isAgg2 rfl)<|z2 (Gv.minI rfl rfl)<|zg (iMade _ _) rfl<|y4 sizeOf74 rfl rfl rfl rfl rfl rfl .head rfl<|z6<|zh<|yz rfl ⟨_, .head⟩ isAgg74 sizeOf74 rfl ?_
 rfl
theorem iEmpty (r : Rng) : AFun Tryz.prog E 82 [.agg (encZ r)] (.bool (decide (r.2 < r.1))) := by
 refine zp func82 rfl (by decide) rfl<|zb<|z8 rfl<|yc (cs := _) rfl rfl rfl<|z2 (zAb rfl)<|z6<|zb<|z8 rfl<|z2 (zc underlying74 rfl sizeOf2 (by decide) rfl rfl)<|z2 (zLi isAgg2 rfl)<|z2 (zc underlying74 rfl sizeOf2 (by decide) rfl rfl)<|z2 (zLi isAgg2 rfl)<|z2 (yv rfl rfl)<|z2 (zAb rfl)<|z6<|zh<|zk (x := .bool _) rfl ?_
 rfl
theorem iJoin (a b : Rng) : AFun Tryz.prog E 181 [.agg (encZ a), .agg (encZ b)] (.agg (encZ (rJoin a b))) := by
 refine zp func181 rfl (by decide) rfl<|zb<|z8 rfl<|yc (cs := _) rfl rfl rfl<|yc (cs := _) rfl rfl rfl<|y9 (cs := [.int .i64 0, .int .i64 0]) zeroValue74 rfl rfl<|fun i4 => z6<|zb<|zi<|zb<|z8 rfl<|z2 (zn isAgg74 sizeOf74 rfl rfl)<|zg (iEmpty _) rfl<|z2 (zAb rfl)<|z6<|zr rfl (fun c1 => ?_) (fun c1 => ?_)
 ·refine zb<|z8 rfl<|z2 (zc underlying74 rfl sizeOf2 (by decide) rfl rfl)<|z2 (zLi isAgg2 rfl)<|z2 (zc underlying74 rfl sizeOf2 (by decide) rfl rfl)<|z2 (zLi isAgg2 rfl)<|zg (iMade _ _) rfl<|y4 sizeOf74 rfl rfl rfl rfl rfl rfl .head rfl<|z6<|zh<|yz rfl ⟨_, .head⟩ isAgg74 sizeOf74 rfl ?_
  rw [rJoin, if_pos c1]; try rfl
 ·refine zb<|z8 rfl<|z2 (zn isAgg74 sizeOf74 rfl rfl)<|zg (iEmpty _) rfl<|z2 (zAb rfl)<|z6<|zr rfl (fun c2 => ?_) (fun c2 => ?_)
  ·refine zb<|z8 rfl<|z2 (zn isAgg74 sizeOf74 rfl rfl)<|y4 sizeOf74 rfl rfl rfl rfl rfl rfl .head rfl<|z6<|zh<|yz rfl ⟨_, .head⟩ isAgg74 sizeOf74 rfl ?_
   rw [rJoin, if_neg c1, if_pos c2]; try rfl
  ·refine ze<|zb<|z8 rfl<|z2 (zc underlying74 rfl sizeOf2 (by decide) rfl rfl)<|z2 (zLi isAgg2 rfl)<|z2 (zc underlying74 rfl sizeOf2 (by decide) rfl rfl)<|z2 (zLi isAgg2 rfl)<|z2 (Gv.minI rfl rfl)<|z2 (zc underlying74 rfl sizeOf2 (by decide) rfl rfl)<|z2 (zLi isAgg2 rfl)<|z2 (zc underlying74 rfl sizeOf2 (by decide) rfl rfl)<|z2 (zLi isAgg2 rfl)<|z2 (Gv.maxI rfl rfl)<|z2 (y1 (cps := [(0, [_]), (1, [_])]) (rs := [_, _]) pl74 rfl rfl rfl)<|y4 sizeOf74 rfl rfl rfl rfl rfl rfl .head rfl<|z6<|zh<|yz rfl ⟨_, .head⟩ isAgg74 sizeOf74 rfl ?_
   rw [rJoin, if_neg c1, if_neg c2]; try rfl
theorem iNear (b : Bool) : AFun Tryz.prog E 235 [.bool b] (.int .i64 (if b = true then m64 else M64)) := by
 refine zp func235 rfl (by decide) rfl<|zb<|z8 rfl<|z2 (zAi rfl)<|z6<|zb<|zb<|z8 rfl<|z2 (zMb rfl)<|z6<|zy rfl (fun c7 => ?_) (fun c7 => ?_)
 ·refine zb<|z8 rfl<|z2 (zAi rfl)<|z6<|zh<|zk (x := .int _ _) rfl ?_
  simp_all [m64, M64]
 ·refine ze<|zb<|z8 rfl<|z2 (zAi rfl)<|z6<|zh<|zk (x := .int _ _) rfl ?_
  simp_all [m64, M64]
theorem iSums (op : Int) : AFun Tryz.prog E 217 [.int .i64 op] (.bool (decide (op = 2) || (decide (op = 3) || decide (op = 4)))) := by
 refine zp func217 rfl (by decide) rfl<|zb<|z8 rfl<|z2 (zAb rfl)<|z6<|zb<|z8 rfl<|z2 (zMi rfl)<|z2 (y3 rfl rfl)<|z2 (zMb rfl)<|zm (s := 5) rfl (fun c8 => ?_) (fun c8 => ?_)
 ·refine z7 rfl rfl c8<|z7 rfl rfl c8<|z2 (zPt rfl c8 rfl)<|z2 (zMb rfl)<|z7 rfl rfl rfl<|z7 rfl rfl rfl<|z2 (zPt rfl rfl rfl)<|z2 (zAb rfl)<|z6<|zh<|zk (x := .bool _) rfl ?_
  exact jb (by simp_all)
 ·refine za rfl rfl c8<|z2 (zMi rfl)<|za rfl rfl c8<|z2 (y3 rfl rfl)<|z2 (zPf rfl c8 rfl)<|z2 (zMb rfl)<|zm (s := 9) rfl (fun c9 => ?_) (fun c9 => ?_)
  ·refine z7 rfl rfl c9<|z7 rfl rfl c9<|z2 (zPt rfl c9 rfl)<|z2 (zAb rfl)<|z6<|zh<|zk (x := .bool _) rfl ?_
   exact jb (by simp_all)
  ·refine za rfl rfl c9<|z2 (zMi rfl)<|za rfl rfl c9<|z2 (y3 rfl rfl)<|z2 (zPf rfl c9 rfl)<|z2 (zAb rfl)<|z6<|zh<|zk (x := .bool _) rfl ?_
   exact jb (by simp_all)
theorem aAdd {x y : Int} (hx : is64 x) (hy : is64 y) : AFun Tryz.prog E 223 [.int .i64 x, .int .i64 y] (.tup [.int .i64 (IntKind.i64.wrap (x + y)), .bool (decide (fit3 0 x y))]) := by
 rw [← sumB hx hy]
 refine zp func223 rfl (by decide) rfl<|zb<|z8 rfl<|z2 (zAi rfl)<|z2 (zAb rfl)<|z6<|zb<|z8 rfl<|z2 (zMi rfl)<|z2 (zMi rfl)<|z2 (Gv.addW rfl rfl)<|z2 (zAi rfl)<|z6<|zb<|z8 rfl<|z2 (zMi rfl)<|z2 (zMi rfl)<|z2 (ye rfl rfl)<|z2 (zMi rfl)<|z2 (ye rfl rfl)<|z2 (Gv.neqB underlying4 rfl rfl)<|z2 (zMb rfl)<|zm (s := 16) rfl (fun c10 => ?_) (fun c10 => ?_)
 ·refine z7 rfl rfl c10<|z7 rfl rfl c10<|z7 rfl rfl c10<|z7 rfl rfl c10<|z7 rfl rfl c10<|z2 (zPt rfl c10 rfl)<|z2 (zAi rfl)<|z2 (zAb rfl)<|z6<|zh<|q5 (x := .int _ _) (y := .bool _) rfl rfl ?_
  simp_all
 ·refine za rfl rfl c10<|z2 (zMi rfl)<|za rfl rfl c10<|z2 (ye rfl rfl)<|za rfl rfl c10<|z2 (zMi rfl)<|za rfl rfl c10<|z2 (ye rfl rfl)<|za rfl rfl c10<|z2 (Gv.eqlB underlying4 rfl rfl)<|z2 (zPf rfl c10 rfl)<|z2 (zAi rfl)<|z2 (zAb rfl)<|z6<|zh<|q5 (x := .int _ _) (y := .bool _) rfl rfl ?_
  simp_all
theorem aSub {x y : Int} (hx : is64 x) (hy : is64 y) : AFun Tryz.prog E 236 [.int .i64 x, .int .i64 y] (.tup [.int .i64 (IntKind.i64.wrap (x - y)), .bool (decide (fit3 1 x y))]) := by
 rw [← subB hx hy]
 refine zp func236 rfl (by decide) rfl<|zb<|z8 rfl<|z2 (zAi rfl)<|z2 (zAb rfl)<|z6<|zb<|z8 rfl<|z2 (zMi rfl)<|z2 (zMi rfl)<|z2 (Gv.subW rfl rfl)<|z2 (zAi rfl)<|z6<|zb<|z8 rfl<|z2 (zMi rfl)<|z2 (zMi rfl)<|z2 (ye rfl rfl)<|z2 (zMi rfl)<|z2 (ye rfl rfl)<|z2 (Gv.eqlB underlying4 rfl rfl)<|z2 (zMb rfl)<|zm (s := 16) rfl (fun c11 => ?_) (fun c11 => ?_)
 ·refine z7 rfl rfl c11<|z7 rfl rfl c11<|z7 rfl rfl c11<|z7 rfl rfl c11<|z7 rfl rfl c11<|z2 (zPt rfl c11 rfl)<|z2 (zAi rfl)<|z2 (zAb rfl)<|z6<|zh<|q5 (x := .int _ _) (y := .bool _) rfl rfl ?_
  simp_all
 ·refine za rfl rfl c11<|z2 (zMi rfl)<|za rfl rfl c11<|z2 (ye rfl rfl)<|za rfl rfl c11<|z2 (zMi rfl)<|za rfl rfl c11<|z2 (ye rfl rfl)<|za rfl rfl c11<|z2 (Gv.eqlB underlying4 rfl rfl)<|z2 (zPf rfl c11 rfl)<|z2 (zAi rfl)<|z2 (zAb rfl)<|z6<|zh<|q5 (x := .int _ _) (y := .bool _) rfl rfl ?_
  simp_all
theorem aAbs {x : Int} (hx : is64 x) : AFun Tryz.prog E 256 [.int .i64 x] (.int .u64 (x.natAbs : Int)) := by
 rw [← abs_wrap hx]
 refine zp func256 rfl (by decide) rfl<|zb<|z8 rfl<|z2 (zAi rfl)<|z6<|zb<|zb<|z8 rfl<|z2 (zMi rfl)<|z2 (ye rfl rfl)<|z6<|zr rfl (fun c => ?_) (fun c => ?_)
 ·refine zb<|z8 rfl<|z2 (zMi rfl)<|z2 (Gv.conv underlying2 underlying232 rfl)<|z2 (Gv.neg rfl)<|z2 (zAi rfl)<|z6<|zh<|zk (x := .int _ _) rfl ?_
  rw [if_pos c]; try rfl
 ·refine ze<|zb<|z8 rfl<|z2 (zMi rfl)<|z2 (Gv.conv underlying2 underlying232 rfl)<|z2 (zAi rfl)<|z6<|zh<|zk (x := .int _ _) rfl ?_
  rw [if_neg c]; try rfl
end Go.Proofs.YtjnpcfpecilejaaGreatDoor
namespace Go.Proofs.YtjnpcfpecilejaaGreatDoor
open Go.Proofs.Tryz
open Go.Proofs
theorem wrap_u (z : Int) : IntKind.u64.wrap z = z % 18446744073709551616 := by
 unfold IntKind.wrap; simp [IntKind.bits, IntKind.signed]
theorem fitU {x y : Int} (hx : is64 x) (hx0 : x ≠ 0) (hy0 : y ≠ 0) : decide ((x.natAbs : Int) ≤ IntKind.u64.wrap ((if (decide (x < 0) == decide (y < 0)) = true then 9223372036854775807 else 9223372036854775808 : Int).tdiv (y.natAbs : Int))) = decide (fit3 2 x y) := by
 rw [decide_eq_decide, ← fitMul x y hx0 hy0]
 obtain ⟨l, hl⟩ : ∃ l : Nat, (if decide (x < 0) = decide (y < 0) then 9223372036854775807 else 9223372036854775808) = l := ⟨_, rfl⟩
 have hl2 : (if (decide (x < 0) == decide (y < 0)) = true then 9223372036854775807 else 9223372036854775808 : Int) = (l : Int) := by
  rw [← hl]
  by_cases h : decide (x < 0) = decide (y < 0)
  ·rw [if_pos h, if_pos (by simpa using h)]; rfl
  ·rw [if_neg h, if_neg (by simpa using h)]; rfl
 have hll : l ≤ 9223372036854775808 := by rw [← hl]; split <;> omega
 rw [hl, hl2, show ((l : Int)).tdiv (y.natAbs : Int) = ((l / y.natAbs : Nat) : Int) from rfl, wrap_u]
 have h3 := Nat.div_le_self l y.natAbs
 generalize l / y.natAbs = q at h3 ⊢
 omega
end Go.Proofs.YtjnpcfpecilejaaGreatDoor
namespace Go.Proofs.YtjnpcfpecilejaaGreatDoor
open Go.Proofs.Tryz
open Go.Proofs
theorem pl75 : Places Tryz.prog 75 #[(0, 1), (1, 1)] [.int .i64 0, .int .i64 0] := ⟨_, _, underlying75, zeroValue75, fun w => by kernel_rfl, rfl⟩
variable {E : World}
set_option maxRecDepth 20000
theorem rNone : AFun Tryz.prog E 38 [] (.agg (encZ noR)) := by
 refine zp func38 rfl (by decide) rfl<|zb<|z8 rfl<|y9 (cs := [.int .i64 0, .int .i64 0]) zeroValue75 rfl rfl<|fun i0 => z6<|zb<|z8 rfl<|z2 (y1 (cps := [(0, [_]), (1, [_])]) (rs := [_, _]) pl75 rfl rfl rfl)<|y4 sizeOf75 rfl rfl rfl rfl rfl rfl .head rfl<|z6<|zh<|yz rfl ⟨_, .head⟩ isAgg75 sizeOf75 rfl ?_
 rfl
theorem rType_s {t : Int} (ht : 0 ≤ t ∧ t ≤ 2) : AFun Tryz.prog E 61 [.int .i64 t] (.agg (encZ (rType t))) := by
 refine zp func61 rfl (by decide) rfl<|zb<|z8 rfl<|y9 (cs := [.int .i64 0, .int .i64 0]) zeroValue75 rfl rfl<|fun i2 => z6<|zb<|zb<|z8 rfl<|z2 (zMi rfl)<|z6<|zi<|zb<|z8 rfl<|z2 (y3 rfl rfl)<|z2 (zAb rfl)<|z6<|zr rfl (fun c1 => ?_) (fun c1 => ?_)
 ·refine zb<|z8 rfl<|z2 (y1 (cps := [(1, [_])]) (rs := [.int .i64 0, _]) pl75 rfl rfl rfl)<|y4 sizeOf75 rfl rfl rfl rfl rfl rfl .head rfl<|z6<|zh<|yz rfl ⟨_, .head⟩ isAgg75 sizeOf75 rfl ?_
  rw [c1]; try rfl
 ·refine zb<|z8 rfl<|z2 (y3 rfl rfl)<|z2 (zAb rfl)<|z6<|zr rfl (fun c2 => ?_) (fun c2 => ?_)
  ·refine zb<|z8 rfl<|z2 (y1 (cps := [(1, [_])]) (rs := [.int .i64 0, _]) pl75 rfl rfl rfl)<|y4 sizeOf75 rfl rfl rfl rfl rfl rfl .head rfl<|z6<|zh<|yz rfl ⟨_, .head⟩ isAgg75 sizeOf75 rfl ?_
   rw [c2]; try rfl
  ·refine ze<|zb<|z8 rfl<|z2 (y1 (cps := [(0, [_]), (1, [_])]) (rs := [_, _]) pl75 rfl rfl rfl)<|y4 sizeOf75 rfl rfl rfl rfl rfl rfl .head rfl<|z6<|zh<|yz rfl ⟨_, .head⟩ isAgg75 sizeOf75 rfl ?_
   rw [show t = 0 by omega]; try rfl
theorem rMeet_s (a b : Rng) : AFun Tryz.prog E 60 [.agg (encZ a), .agg (encZ b)] (.agg (encZ (rMeet a b))) := by
 refine zp func60 rfl (by decide) rfl<|zb<|z8 rfl<|yq (cs := _) rfl rfl rfl rfl<|fun i2 => yc (cs := _) rfl rfl rfl<|y9 (cs := [.int .i64 0, .int .i64 0]) zeroValue75 rfl rfl<|fun i4 => z6<|zb<|zb<|z8 rfl<|z2 (zc underlying75 rfl sizeOf2 (by decide) rfl rfl)<|z2 (zLi isAgg2 rfl)<|z2 (zu underlying75 rfl sizeOf2 (by decide) rfl rfl)<|z2 (zz (c := .int _ _) isAgg2 rfl ⟨_, (.tail .head)⟩ rfl)<|z2 (yv rfl rfl)<|z6<|yk (γ := Int) [2, 3, 4] (fun x => []) (fun x => [(i4, .cells 75 [.int .i64 0, .int .i64 0]), (i2, .cells 75 [.int .i64 x, .int .i64 a.2])]) (fun x => x = imax a.1 b.1) ?_ (fun _ _ h => h) ?_
 ·refine zr rfl (fun c => ?_) (fun c => ?_)
  ·refine z8 rfl<|z2 (zc underlying75 rfl sizeOf2 (by decide) rfl rfl)<|z2 (zLi isAgg2 rfl)<|z2 (zu underlying75 rfl sizeOf2 (by decide) rfl rfl)<|AOps.storeC (l := [_]) (new := [_, _]) sizeOf2 rfl rfl rfl rfl rfl rfl (.tail .head) rfl rfl<|z6 ?_
   exact ⟨b.1, zR3, trivial, zLe, by rw [imax, if_pos c]⟩
  ·refine ze ?_
   exact ⟨a.1, zR3, trivial, zLe, by rw [imax, if_neg c]⟩
 ·rintro x hx
  refine zb<|zb<|z8 rfl<|z2 (zc underlying75 rfl sizeOf2 (by decide) rfl rfl)<|z2 (zLi isAgg2 rfl)<|z2 (zu underlying75 rfl sizeOf2 (by decide) rfl rfl)<|z2 (zz (c := .int _ _) isAgg2 rfl ⟨_, (.tail .head)⟩ rfl)<|z2 (ye rfl rfl)<|z6<|yk (γ := Int) [2, 4] (fun y => []) (fun y => [(i4, .cells 75 [.int .i64 0, .int .i64 0]), (i2, .cells 75 [.int .i64 x, .int .i64 y])]) (fun y => y = imin a.2 b.2) ?_ (fun _ _ h => h) ?_
  ·refine zr rfl (fun c => ?_) (fun c => ?_)
   ·refine z8 rfl<|z2 (zc underlying75 rfl sizeOf2 (by decide) rfl rfl)<|z2 (zLi isAgg2 rfl)<|z2 (zu underlying75 rfl sizeOf2 (by decide) rfl rfl)<|AOps.storeC (l := [_]) (new := [_, _]) sizeOf2 rfl rfl rfl rfl rfl rfl (.tail .head) rfl rfl<|z6 ?_
    exact ⟨b.2, zR2, trivial, zLe, by rw [imin, if_pos c]⟩
   ·refine ze ?_
    exact ⟨a.2, zR2, trivial, zLe, by rw [imin, if_neg c]⟩
  ·rintro y hy
   rw [rMeet, ← hx, ← hy, rMade]
   refine zb<|zb<|z8 rfl<|z2 (zu underlying75 rfl sizeOf2 (by decide) rfl rfl)<|z2 (zz (c := .int _ _) isAgg2 rfl ⟨_, (.tail .head)⟩ rfl)<|z2 (zu underlying75 rfl sizeOf2 (by decide) rfl rfl)<|z2 (zz (c := .int _ _) isAgg2 rfl ⟨_, (.tail .head)⟩ rfl)<|z2 (yv rfl rfl)<|z6<|zr rfl (fun c => ?_) (fun c => ?_)
   ·refine zb<|z8 rfl<|zg (rNone) rfl<|y4 sizeOf75 rfl rfl rfl rfl rfl rfl .head rfl<|z6<|zh<|yz rfl ⟨_, .head⟩ isAgg75 sizeOf75 rfl ?_
    rw [if_pos c]; try rfl
   ·refine ze<|zb<|z8 rfl<|z2 (Gv.loadWC isAgg75 sizeOf75 rfl ⟨_, (.tail .head)⟩ rfl)<|y4 sizeOf75 rfl rfl rfl rfl rfl rfl .head rfl<|z6<|zh<|yz rfl ⟨_, .head⟩ isAgg75 sizeOf75 rfl ?_
    rw [if_neg c]; try rfl
theorem rFits2 {k : Nat} (hk : k ≤ 2) {x y : Int} (hx : is64 x) (hy : is64 y) : AFun Tryz.prog E 133 [.int .i64 k, .int .i64 x, .int .i64 y] (.bool (decide (fit3 k x y))) := by
 have hx1 := hx; have hy1 := hy
 unfold is64 at hx1 hy1
 refine zp func133 rfl (by decide) rfl<|zb<|z8 rfl<|z2 (zAb rfl)<|z6<|zb<|zb<|z8 rfl<|z2 (zMi rfl)<|z6<|zi<|zb<|z8 rfl<|z2 (y3 rfl rfl)<|z2 (zAb rfl)<|z6<|zr rfl (fun c0 => ?_) (fun c0 => ?_)
 ·have hk0 : k = 0 := by omega
  subst hk0
  refine zb<|z8 rfl<|z2 (zMi rfl)<|z2 (yv rfl rfl)<|z2 (zMb rfl)<|zm (s := 16) rfl (fun c1 => ?_) (fun c1 => ?_)
  ·refine za rfl rfl c1<|z2 (zMi rfl)<|za rfl rfl c1<|z2 (zMi rfl)<|za rfl rfl c1<|z2 (Gv.sub rfl rfl (by unfold I64; simp at *; omega))<|za rfl rfl c1<|z2 (yv rfl rfl)<|z2 (zPt rfl c1 rfl)<|z2 (yg rfl)<|z2 (zMb rfl)<|zm (s := 23) rfl (fun c2 => ?_) (fun c2 => ?_)
   ·refine za rfl rfl c2<|z2 (zMi rfl)<|za rfl rfl c2<|z2 (ye rfl rfl)<|za rfl rfl c2<|z2 (zMb rfl)<|zm (s := 26) rfl (fun c3 => ?_) (fun c3 => ?_)
    ·refine za rfl rfl c3<|z2 (zMi rfl)<|za rfl rfl c3<|z2 (zMi rfl)<|za rfl rfl c3<|z2 (Gv.sub rfl rfl (by unfold I64; simp at *; omega))<|za rfl rfl c3<|z2 (ye rfl rfl)<|za rfl rfl c2<|z2 (zPt rfl c3 rfl)<|za rfl rfl c2<|z2 (yg rfl)<|z2 (zPt rfl c2 rfl)<|z2 (zAb rfl)<|z6<|zh<|zk (x := .bool _) rfl ?_
     exact jb (by rw [qo]; unfold fit3 op3 is64; simp at * <;> omega)
    ·refine z7 rfl rfl c3<|z7 rfl rfl c3<|z7 rfl rfl c3<|z7 rfl rfl c3<|za rfl rfl c2<|z2 (zPf rfl c3 rfl)<|za rfl rfl c2<|z2 (yg rfl)<|z2 (zPt rfl c2 rfl)<|z2 (zAb rfl)<|z6<|zh<|zk (x := .bool _) rfl ?_
     exact jb (by rw [qo]; unfold fit3 op3 is64; simp at * <;> omega)
   ·refine z7 rfl rfl c2<|z7 rfl rfl c2<|z7 rfl rfl c2<|zd rfl rfl<|zd rfl rfl<|zd rfl rfl<|zd rfl rfl<|z7 rfl rfl c2<|z7 rfl rfl c2<|z2 (zPf rfl c2 rfl)<|z2 (zAb rfl)<|z6<|zh<|zk (x := .bool _) rfl ?_
    exact jb (by rw [qo]; unfold fit3 op3 is64; simp at * <;> omega)
  ·refine z7 rfl rfl c1<|z7 rfl rfl c1<|z7 rfl rfl c1<|z7 rfl rfl c1<|z2 (zPf rfl c1 rfl)<|z2 (yg rfl)<|z2 (zMb rfl)<|za rfl rfl rfl<|z2 (zMi rfl)<|za rfl rfl rfl<|z2 (ye rfl rfl)<|za rfl rfl rfl<|z2 (zMb rfl)<|zm (s := 26) rfl (fun c4 => ?_) (fun c4 => ?_)
   ·refine za rfl rfl c4<|z2 (zMi rfl)<|za rfl rfl c4<|z2 (zMi rfl)<|za rfl rfl c4<|z2 (Gv.sub rfl rfl (by unfold I64; simp at *; omega))<|za rfl rfl c4<|z2 (ye rfl rfl)<|za rfl rfl rfl<|z2 (zPt rfl c4 rfl)<|za rfl rfl rfl<|z2 (yg rfl)<|z2 (zPt rfl rfl rfl)<|z2 (zAb rfl)<|z6<|zh<|zk (x := .bool _) rfl ?_
    exact jb (by rw [qo]; unfold fit3 op3 is64; simp at * <;> omega)
   ·refine z7 rfl rfl c4<|z7 rfl rfl c4<|z7 rfl rfl c4<|z7 rfl rfl c4<|za rfl rfl rfl<|z2 (zPf rfl c4 rfl)<|za rfl rfl rfl<|z2 (yg rfl)<|z2 (zPt rfl rfl rfl)<|z2 (zAb rfl)<|z6<|zh<|zk (x := .bool _) rfl ?_
    exact jb (by rw [qo]; unfold fit3 op3 is64; simp at * <;> omega)
 ·refine zb<|z8 rfl<|z2 (y3 rfl rfl)<|z2 (zAb rfl)<|z6<|zr rfl (fun c1 => ?_) (fun c1 => ?_)
  ·have hk1 : k = 1 := by omega
   subst hk1
   refine zb<|z8 rfl<|z2 (zMi rfl)<|z2 (ye rfl rfl)<|z2 (zMb rfl)<|zm (s := 38) rfl (fun c5 => ?_) (fun c5 => ?_)
   ·refine za rfl rfl c5<|z2 (zMi rfl)<|za rfl rfl c5<|z2 (zMi rfl)<|za rfl rfl c5<|z2 (yb rfl rfl (by unfold I64; simp at *; omega))<|za rfl rfl c5<|z2 (yv rfl rfl)<|z2 (zPt rfl c5 rfl)<|z2 (yg rfl)<|z2 (zMb rfl)<|zm (s := 45) rfl (fun c6 => ?_) (fun c6 => ?_)
    ·refine za rfl rfl c6<|z2 (zMi rfl)<|za rfl rfl c6<|z2 (yv rfl rfl)<|za rfl rfl c6<|z2 (zMb rfl)<|zm (s := 48) rfl (fun c7 => ?_) (fun c7 => ?_)
     ·refine za rfl rfl c7<|z2 (zMi rfl)<|za rfl rfl c7<|z2 (zMi rfl)<|za rfl rfl c7<|z2 (yb rfl rfl (by unfold I64; simp at *; omega))<|za rfl rfl c7<|z2 (ye rfl rfl)<|za rfl rfl c6<|z2 (zPt rfl c7 rfl)<|za rfl rfl c6<|z2 (yg rfl)<|z2 (zPt rfl c6 rfl)<|z2 (zAb rfl)<|z6<|zh<|zk (x := .bool _) rfl ?_
      exact jb (by rw [qo]; unfold fit3 op3 is64; simp at * <;> omega)
     ·refine z7 rfl rfl c7<|z7 rfl rfl c7<|z7 rfl rfl c7<|z7 rfl rfl c7<|za rfl rfl c6<|z2 (zPf rfl c7 rfl)<|za rfl rfl c6<|z2 (yg rfl)<|z2 (zPt rfl c6 rfl)<|z2 (zAb rfl)<|z6<|zh<|zk (x := .bool _) rfl ?_
      exact jb (by rw [qo]; unfold fit3 op3 is64; simp at * <;> omega)
    ·refine z7 rfl rfl c6<|z7 rfl rfl c6<|z7 rfl rfl c6<|zd rfl rfl<|zd rfl rfl<|zd rfl rfl<|zd rfl rfl<|z7 rfl rfl c6<|z7 rfl rfl c6<|z2 (zPf rfl c6 rfl)<|z2 (zAb rfl)<|z6<|zh<|zk (x := .bool _) rfl ?_
     exact jb (by rw [qo]; unfold fit3 op3 is64; simp at * <;> omega)
   ·refine z7 rfl rfl c5<|z7 rfl rfl c5<|z7 rfl rfl c5<|z7 rfl rfl c5<|z2 (zPf rfl c5 rfl)<|z2 (yg rfl)<|z2 (zMb rfl)<|za rfl rfl rfl<|z2 (zMi rfl)<|za rfl rfl rfl<|z2 (yv rfl rfl)<|za rfl rfl rfl<|z2 (zMb rfl)<|zm (s := 48) rfl (fun c8 => ?_) (fun c8 => ?_)
    ·refine za rfl rfl c8<|z2 (zMi rfl)<|za rfl rfl c8<|z2 (zMi rfl)<|za rfl rfl c8<|z2 (yb rfl rfl (by unfold I64; simp at *; omega))<|za rfl rfl c8<|z2 (ye rfl rfl)<|za rfl rfl rfl<|z2 (zPt rfl c8 rfl)<|za rfl rfl rfl<|z2 (yg rfl)<|z2 (zPt rfl rfl rfl)<|z2 (zAb rfl)<|z6<|zh<|zk (x := .bool _) rfl ?_
     exact jb (by rw [qo]; unfold fit3 op3 is64; simp at * <;> omega)
    ·refine z7 rfl rfl c8<|z7 rfl rfl c8<|z7 rfl rfl c8<|z7 rfl rfl c8<|za rfl rfl rfl<|z2 (zPf rfl c8 rfl)<|za rfl rfl rfl<|z2 (yg rfl)<|z2 (zPt rfl rfl rfl)<|z2 (zAb rfl)<|z6<|zh<|zk (x := .bool _) rfl ?_
     exact jb (by rw [qo]; unfold fit3 op3 is64; simp at * <;> omega)
  ·have hk2 : k = 2 := by omega
   subst hk2
   refine ze<|zb<|zb<|yk (γ := Bool) [1, 2] (fun u => [(61, .bool u)]) (fun u => []) (fun u => u = decide (x = 0 ∨ y = 0)) ?_ (fun _ _ h => h) ?_
   ·refine z8 rfl<|z2 (zMi rfl)<|z2 (y3 rfl rfl)<|z2 (zMb rfl)<|zm (s := 58) rfl (fun c9 => ?_) (fun c9 => ?_)
    ·refine z7 rfl rfl c9<|z7 rfl rfl c9<|z2 (zPt rfl c9 rfl)<|z6 ?_
     exact ⟨_, zR2, zR1, zLe, by simp_all⟩
    ·refine za rfl rfl c9<|z2 (zMi rfl)<|za rfl rfl c9<|z2 (y3 rfl rfl)<|z2 (zPf rfl c9 rfl)<|z6 ?_
     exact ⟨_, zR2, zR1, zLe, by simp_all⟩
   ·rintro u hu
    subst hu
    refine zr rfl (fun cz => ?_) (fun cz => ?_)
    ·refine zb<|z8 rfl<|z2 (zAb rfl)<|z6<|zh<|zk (x := .bool _) rfl ?_
     exact jb (by rw [qq]; unfold fit3; rw [show op3 2 x y = x * y from rfl]; rcases cz with h | h <;> rw [h] <;> simp [is64])
    ·have hx0 : x ≠ 0 := fun e => cz (.inl e)
     have hy0 : y ≠ 0 := fun e => cz (.inr e)
     refine ze<|zb<|z8 rfl<|z2 (zMi rfl)<|z2 (ye rfl rfl)<|z2 (zMi rfl)<|z2 (ye rfl rfl)<|z2 (Gv.eqlB underlying4 rfl rfl)<|z2 (zAb rfl)<|z6<|zb<|z8 rfl<|z2 (zMi rfl)<|z2 (Gv.conv underlying2 underlying232 rfl)<|z2 (zMi rfl)<|z2 (Gv.conv underlying2 underlying232 rfl)<|z2 (zAi rfl)<|z2 (zAi rfl)<|z6<|zb<|zb<|z8 rfl<|z2 (zMi rfl)<|z2 (ye rfl rfl)<|z6<|yk (γ := Int) [2, 7, 9] (fun u => [(8, .int .u64 u)]) (fun u => []) (fun u => u = (x.natAbs : Int)) ?_ (fun _ _ h => h) ?_
     ·refine zr rfl (fun c => ?_) (fun c => ?_)
      ·refine z8 rfl<|z2 (zMi rfl)<|z2 (Gv.neg rfl)<|z2 (zAi rfl)<|z6 ?_
       exact ⟨_, zR3, zR1, zLe, by have := abs_wrap hx; rwa [if_pos c] at this⟩
      ·refine ze ?_
       exact ⟨_, zR3, zR1, zLe, by have := abs_wrap hx; rwa [if_neg c] at this⟩
     ·rintro u hu
      subst hu
      refine zb<|zb<|z8 rfl<|z2 (zMi rfl)<|z2 (ye rfl rfl)<|z6<|yk (γ := Int) [7, 8] (fun u => [(9, .int .u64 u)]) (fun u => []) (fun u => u = (y.natAbs : Int)) ?_ (fun _ _ h => h) ?_
      ·refine zr rfl (fun c => ?_) (fun c => ?_)
       ·refine z8 rfl<|z2 (zMi rfl)<|z2 (Gv.neg rfl)<|z2 (zAi rfl)<|z6 ?_
        exact ⟨_, zR2, zR1, zLe, by have := abs_wrap hy; rwa [if_pos c] at this⟩
       ·refine ze ?_
        exact ⟨_, zR2, zR1, zLe, by have := abs_wrap hy; rwa [if_neg c] at this⟩
      ·rintro u hu
       subst hu
       refine zb<|z8 rfl<|z2 (zAi rfl)<|z6<|zb<|zb<|z8 rfl<|z2 (zMb rfl)<|z2 (yg rfl)<|z6<|yk (γ := Int) [8, 9] (fun u => [(10, .int .u64 u)]) (fun u => []) (fun u => u = (if (decide (x < 0) == decide (y < 0)) = true then 9223372036854775807 else 9223372036854775808)) ?_ (fun _ _ h => h) ?_
       ·refine zy rfl (fun c => ?_) (fun c => ?_)
        ·refine z8 rfl<|z2 (zAi rfl)<|z6 ?_
         exact ⟨_, zR2, zR1, zLe, by rw [if_neg (by simpa using c)]⟩
        ·refine ze ?_
         exact ⟨_, zR2, zR1, zLe, by rw [if_pos (by simpa using c)]⟩
       ·rintro u hu
        subst hu
        refine zb<|z8 rfl<|z2 (zMi rfl)<|z2 (zMi rfl)<|z2 (zMi rfl)<|z2 (Gv.quo rfl rfl (by omega))<|z2 (Gv.leq rfl rfl)<|z2 (zAb rfl)<|z6<|zh<|zk (x := .bool _) rfl ?_
        exact jb (fitU hx hx0 hy0)
theorem rFits {k : Nat} (hk : k ≤ 2) {a b : Rng} (ha : ok64 a) (hb : ok64 b) : AFun Tryz.prog E 109 [.int .i64 k, .agg (encZ a), .agg (encZ b)] (.bool (decide (cornF k a b))) := by
 refine zp func109 rfl (by decide) rfl<|zb<|z8 rfl<|yc (cs := _) rfl rfl rfl<|yc (cs := _) rfl rfl rfl<|z2 (zAb rfl)<|z6<|zb<|z8 rfl<|z2 (zMi rfl)<|z2 (zc underlying75 rfl sizeOf2 (by decide) rfl rfl)<|z2 (zLi isAgg2 rfl)<|z2 (zc underlying75 rfl sizeOf2 (by decide) rfl rfl)<|z2 (zLi isAgg2 rfl)<|zg (rFits2 hk ha.1 hb.1) rfl<|z2 (zMb rfl)<|zm (s := 13) rfl (fun c10 => ?_) (fun c10 => ?_)
 ·refine za rfl rfl c10<|z2 (zMi rfl)<|za rfl rfl c10<|z2 (zc underlying75 rfl sizeOf2 (by decide) rfl rfl)<|za rfl rfl c10<|z2 (zLi isAgg2 rfl)<|za rfl rfl c10<|z2 (zc underlying75 rfl sizeOf2 (by decide) rfl rfl)<|za rfl rfl c10<|z2 (zLi isAgg2 rfl)<|za rfl rfl c10<|zg (rFits2 hk ha.1 hb.2) rfl<|z2 (zPt rfl c10 rfl)<|z2 (zMb rfl)<|zm (s := 21) rfl (fun c11 => ?_) (fun c11 => ?_)
  ·refine za rfl rfl c11<|z2 (zMi rfl)<|za rfl rfl c11<|z2 (zc underlying75 rfl sizeOf2 (by decide) rfl rfl)<|za rfl rfl c11<|z2 (zLi isAgg2 rfl)<|za rfl rfl c11<|z2 (zc underlying75 rfl sizeOf2 (by decide) rfl rfl)<|za rfl rfl c11<|z2 (zLi isAgg2 rfl)<|za rfl rfl c11<|zg (rFits2 hk ha.2 hb.1) rfl<|z2 (zPt rfl c11 rfl)<|z2 (zMb rfl)<|zm (s := 29) rfl (fun c12 => ?_) (fun c12 => ?_)
   ·refine za rfl rfl c12<|z2 (zMi rfl)<|za rfl rfl c12<|z2 (zc underlying75 rfl sizeOf2 (by decide) rfl rfl)<|za rfl rfl c12<|z2 (zLi isAgg2 rfl)<|za rfl rfl c12<|z2 (zc underlying75 rfl sizeOf2 (by decide) rfl rfl)<|za rfl rfl c12<|z2 (zLi isAgg2 rfl)<|za rfl rfl c12<|zg (rFits2 hk ha.2 hb.2) rfl<|z2 (zPt rfl c12 rfl)<|z2 (zAb rfl)<|z6<|zh<|zk (x := .bool _) rfl ?_
    exact jb (by unfold cornF; simp_all)
   ·refine z7 rfl rfl c12<|z7 rfl rfl c12<|z7 rfl rfl c12<|z7 rfl rfl c12<|z7 rfl rfl c12<|z7 rfl rfl c12<|z2 (zPf rfl c12 rfl)<|z2 (zAb rfl)<|z6<|zh<|zk (x := .bool _) rfl ?_
    exact jb (by unfold cornF; simp_all)
  ·refine z7 rfl rfl c11<|z7 rfl rfl c11<|z7 rfl rfl c11<|z7 rfl rfl c11<|z7 rfl rfl c11<|z7 rfl rfl c11<|z2 (zPf rfl c11 rfl)<|z2 (zMb rfl)<|z7 rfl rfl rfl<|z7 rfl rfl rfl<|z7 rfl rfl rfl<|z7 rfl rfl rfl<|z7 rfl rfl rfl<|z7 rfl rfl rfl<|z2 (zPf rfl rfl rfl)<|z2 (zAb rfl)<|z6<|zh<|zk (x := .bool _) rfl ?_
   exact jb (by unfold cornF; simp_all)
 ·refine z7 rfl rfl c10<|z7 rfl rfl c10<|z7 rfl rfl c10<|z7 rfl rfl c10<|z7 rfl rfl c10<|z7 rfl rfl c10<|z2 (zPf rfl c10 rfl)<|z2 (zMb rfl)<|z7 rfl rfl rfl<|z7 rfl rfl rfl<|z7 rfl rfl rfl<|z7 rfl rfl rfl<|z7 rfl rfl rfl<|z7 rfl rfl rfl<|z2 (zPf rfl rfl rfl)<|z2 (zMb rfl)<|z7 rfl rfl rfl<|z7 rfl rfl rfl<|z7 rfl rfl rfl<|z7 rfl rfl rfl<|z7 rfl rfl rfl<|z7 rfl rfl rfl<|z2 (zPf rfl rfl rfl)<|z2 (zAb rfl)<|z6<|zh<|zk (x := .bool _) rfl ?_
  exact jb (by unfold cornF; simp_all)
end Go.Proofs.YtjnpcfpecilejaaGreatDoor
