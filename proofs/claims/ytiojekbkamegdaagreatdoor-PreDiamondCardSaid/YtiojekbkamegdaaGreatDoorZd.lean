/- Where blocks lead; which blocks lead to each. No conditions but bounds. -/
import Derived.Test.YtiojekbkamegdaaGreatDoorZc
import Derived.Test.YtiojekbkamegdaaGreatDoorZa
set_option linter.unusedVariables false
set_option linter.unusedSimpArgs false
set_option linter.unusedSectionVars false
namespace Go.Proofs.YtiojekbkamegdaaGreatDoor
open Go.Proofs.Tryz
open Go.Proofs
variable {E : World}
set_option maxRecDepth 20000
theorem indexFuncJ_spec {p : Int → Bool} {fn : FuncId} {c : List AV} (xs : List Int) (hl : xs.length ≤ 281474976710656) (hp : ∀ x ∈ xs, AFun prog E fn ([.int .i64 x] ++ c) (.bool (p x))) :
  AFun prog E 187 [.fro 1 (xs.map encI), .fn fn [] c] (.int .i64 (firstI p xs 0)) := by
 refine zo func187 rfl (by decide) rfl<|zSr<|z2 (zAi rfl)<|z6<|zd<|zSr<|z2 (zMf rfl)<|z2 (y2 underlying23 rfl)<|z2 (zMi rfl)<|z6<|zi<|y5 (γ := Nat) [0, 1, 7] (fun k => [(8, .int .i64 k)]) (fun k => []) (fun k => k ≤ xs.length ∧ (xs.take k).all (fun x => !p x)) (fun k => xs.length - k) 0 zR1 zLe (⟨qt _, rfl⟩) ?_
 rintro k ⟨hk, hall⟩
 refine zSr<|z2 (yb rfl rfl)<|z6<|zd<|zr rfl (fun ck=>?_) (fun ck=>?_)
 ·have hk2 : k < xs.length := by omega
  refine zh<|zd<|zi<|zSr<|z2 (zMi rfl)<|z2 (zAi rfl)<|z6<|zSr<|z2 (yq (v := .fn _ _ _) rfl)<|z2 (zMf rfl)<|z2 (zMi rfl)<|z2 (q5 underlying23 sizeOf3 rfl rfl rfl (qq (by omega)))<|z2 (zLi isAgg3 rfl)<|AOps.callVP rfl (hp _ (qu hk2)) rfl<|z6<|zz rfl (fun cp=>?_) (fun cp=>?_)
  ·refine zSr<|z2 (zMi rfl)<|z2 (zAi rfl)<|z6<|zg<|zk (x := .int _ _) rfl ?_
   rw [firstI_drop p xs k hk hall, List.drop_eq_getElem_cons hk2, firstI, if_pos cp]
  ·refine zh<|zRg<|z2 (zAd rfl rfl)<|z2 (zMi rfl)<|z6 ?_
   exact ⟨k + 1, zR3, zR1, zLe, ⟨hk2, by rw [qr hk2, List.all_append, hall]; simp [cp]⟩, by omega⟩
 ·have hkn : k = xs.length := by omega
  refine y4<|zSr<|z2 (zAi rfl)<|z6<|zg<|zk (x := .int _ _) rfl ?_
  rw [firstI_drop p xs k hk hall, hkn, List.drop_length, firstI]
theorem containsFuncJ_spec {p : Int → Bool} {fn : FuncId} {c : List AV} (xs : List Int) (hl : xs.length ≤ 281474976710656) (hp : ∀ x ∈ xs, AFun prog E fn ([.int .i64 x] ++ c) (.bool (p x))) :
  AFun prog E 148 [.fro 1 (xs.map encI), .fn fn [] c] (.bool (xs.any p)) := by
 refine zo func148 rfl (by decide) rfl<|zSr<|z2 (zAb rfl)<|z6<|zSr<|z2 (zMf rfl)<|z2 (yq (v := .fn _ _ _) rfl)<|zf (indexFuncJ_spec xs hl hp) rfl<|z2 (q6 rfl rfl)<|z2 (zAb rfl)<|z6<|zg<|zk (x := .bool _) rfl ?_
 rw [firstI_ge]
def kindV (f : PFunc) (v : Int) : Int := ((f.vars[v.toNat]?).map (·.ty)).getD 0
theorem hasV_get {f : PFunc} {v : Int} (h : hasV f v = true) : ∃ x, f.vars[v.toNat]? = some x ∧ v = (v.toNat : Int) ∧ kindV f v = x.ty := by
 unfold hasV at h
 simp only [Bool.and_eq_true, decide_eq_true_eq] at h
 have hl : v.toNat < f.vars.length := by omega
 refine ⟨f.vars[v.toNat], qq hl, by omega, ?_⟩
 unfold kindV; rw [qq hl]; rfl
theorem kind_spec (f : PFunc) (v : Int) (hv : hasV f v = true) : AFun prog E 222 [.agg (encF f), .int .i64 v] (.int .i64 (kindV f v)) := by
 obtain ⟨x, hx, hv2, hk⟩ := hasV_get hv
 rw [hk]
 refine zo func222 rfl (by decide) rfl<|zSr<|y9 (cs := _) rfl rfl rfl<|z2 (zAi rfl)<|z6<|zSr<|z2 (zFF underlying26 rfl sizeOf22 rfl rfl)<|z2 (zLf isAgg22 rfl)<|z2 (zMi rfl)<|z2 (zIM v.toNat underlying22 sizeOf79 rfl rfl hv2 hx)<|z2 (zFF underlying79 rfl sizeOf77 rfl rfl)<|z2 (zLi isAgg77 rfl)<|z2 (zAi rfl)<|z6<|zg<|zk (x := .int _ _) rfl ?_
 rfl
theorem any_spec (op : Int) : AFun prog E 223 [.int .i64 op] (.bool (decide (op = 1))) := by
 refine zo func223 rfl (by decide) rfl<|zSr<|z2 (zAb rfl)<|z6<|zSr<|z2 (zMi rfl)<|z2 (y7 rfl rfl)<|z2 (zAb rfl)<|z6<|zg<|zk (x := .bool _) rfl ?_
 simp_all
theorem headD_at : ∀ {l : List Int} (h : 0 < l.length), l.headD 0 = l[0]
 | [], h => absurd h (Nat.lt_irrefl 0)
 | _ :: _, _ => rfl
def instT (f : PFunc) (x : PInst) : Bool := if x.op = 1 then decide (kindV f x.dst = kindV f (x.args.headD 0)) else decide (x.args.map (kindV f) = takesL x.op) && (!makesB x.op || decide (kindV f x.dst = makesT x.op))
theorem map_take_succ {f : PFunc} {xs ts : List Int} {k : Nat} (h1 : k < xs.length) (h2 : k < ts.length) (h : (xs.take k).map (kindV f) = ts.take k) (hk : kindV f xs[k] = ts[k]) : (xs.take (k + 1)).map (kindV f) = ts.take (k + 1) := by
 rw [qr h1, qr h2, List.map_append, h, List.map_cons, List.map_nil, hk]
theorem map_ne {f : PFunc} {xs ts : List Int} {k : Nat} (h1 : k < xs.length) (h2 : k < ts.length) (hk : ¬ kindV f xs[k] = ts[k]) : ¬ xs.map (kindV f) = ts := by
 intro e
 apply hk
 subst e
 rw [List.getElem_map]
theorem yinst_spec (f : PFunc) (x : PInst) (ha : x.args.all (hasV f) = true) (hl : x.args.length = (takesL x.op).length) (hd : makesB x.op = true → hasV f x.dst = true) :
  AFun prog E 182 [.agg (encF f), .agg (encInst x)] (.bool (instT f x)) := by
 have hlen : (takesL x.op).length ≤ 3 := by
  rcases kRow_mem x.op with h | h
  ·unfold takesL; rw [h]; decide
  ·have : ∀ r ∈ kindT, r.2.1.data.toList.length ≤ 3 := by decide
   have := this _ h
   unfold takesL; simpa using this
 refine zo func182 rfl (by decide) rfl<|zSr<|y9 (cs := _) rfl rfl rfl<|y9 (cs := _) rfl rfl rfl<|z2 (zAb rfl)<|z6<|zd<|zSr<|z2 (zFF underlying61 rfl sizeOf59 rfl rfl)<|z2 (zLi isAgg59 rfl)<|zf (any_spec _) rfl<|z6<|zr rfl (fun c1=>?_) (fun c1=>?_)
 ·have e1 : x.op = 1 := by simpa using c1
  have hlz : 0 < x.args.length := by rw [hl, e1]; decide
  have hv0 : hasV f x.args[0] = true := List.all_eq_true.1 ha _ (qu hlz)
  have hvd : hasV f x.dst = true := hd (by rw [e1]; decide)
  refine zd<|zu (fun j => false) (by kernel_rfl) rfl (zm (.rest _))<|zTk 0 rfl (zp isAgg26 sizeOf26 rfl rfl)<|zTk 1 rfl (zFF underlying61 rfl sizeOf3 rfl rfl)<|zTk 2 rfl (zLi isAgg3 rfl)<|zTk 4 rfl (zp isAgg26 sizeOf26 rfl rfl)<|zTk 5 rfl (zFF underlying61 rfl sizeOf23 rfl rfl)<|zTk 6 rfl (zLf isAgg23 rfl)<|zTk 7 rfl (zIM 0 underlying23 sizeOf3 rfl rfl rfl (qq hlz))<|zTk 8 rfl (zLi isAgg3 rfl)<|zOn 3 rfl<|zf (kind_spec _ _ (by assumption)) rfl<|z6<|zOn 9 rfl<|zf (kind_spec _ _ (by assumption)) rfl<|z6<|zTk 10 rfl (y7 rfl rfl)<|zTk 11 rfl (zAb rfl)<|zDn<|zg<|zk (x := .bool _) rfl ?_
  exact jb (by unfold instT; rw [if_pos e1, headD_at hlz])
 ·have e1 : ¬ x.op = 1 := by simpa using c1
  refine zh<|zd<|zSr<|z2 (zFF underlying61 rfl sizeOf59 rfl rfl)<|z2 (zLi isAgg59 rfl)<|zf (takes_spec _) rfl<|z2 (y2 underlying286 rfl)<|z2 (zMi rfl)<|z6<|zi<|y5 (γ := Nat) [2, 3, 25, 26] (fun k => [(27, .int .i64 k)]) (fun k => []) (fun k => k ≤ (takesL x.op).length ∧ (x.args.take k).map (kindV f) = (takesL x.op).take k) (fun k => (takesL x.op).length - k) 0 zR1 zLe (⟨qt _, rfl⟩) ?_
  rintro k ⟨hk, hall⟩
  refine zSr<|z2 (yb rfl rfl)<|z6<|zd<|zr rfl (fun ck=>?_) (fun ck=>?_)
  ·have hk2 : k < (takesL x.op).length := by simp at ck; omega
   have hk3 : k < x.args.length := by omega
   have hvk : hasV f x.args[k] = true := List.all_eq_true.1 ha _ (qu hk3)
   refine zh<|zd<|zi<|zSr<|z2 (zMi rfl)<|z2 (zIM k underlying286 sizeOf77 rfl rfl rfl (qq hk2))<|z2 (zLi isAgg77 rfl)<|z2 (zAi rfl)<|z2 (zAi rfl)<|z6<|zd<|zu (fun j => false) (by kernel_rfl) rfl (zm (.rest _))<|zTk 0 rfl (zp isAgg26 sizeOf26 rfl rfl)<|zTk 1 rfl (zFF underlying61 rfl sizeOf23 rfl rfl)<|zTk 2 rfl (zLf isAgg23 rfl)<|zTk 3 rfl (zMi rfl)<|zTk 4 rfl (zIM k underlying23 sizeOf3 rfl rfl rfl (qq hk3))<|zTk 5 rfl (zLi isAgg3 rfl)<|zTk 7 rfl (zMi rfl)<|zOn 6 rfl<|zf (kind_spec _ _ (by assumption)) rfl<|z6<|zTk 8 rfl (yj rfl rfl)<|zDn<|zz rfl (fun cn=>?_) (fun cn=>?_)
   ·refine zSr<|z2 (zAb rfl)<|z6<|zg<|zk (x := .bool _) rfl ?_
    exact jb (by unfold instT; rw [if_neg e1, w4 (map_ne hk3 hk2 (by simpa using cn))]; rfl)
   ·refine zh<|zRg<|z2 (zAd rfl rfl)<|z2 (zMi rfl)<|z6 ?_
    exact ⟨k + 1, zR4, zR1, zLe, ⟨hk2, map_take_succ hk3 hk2 hall (by simpa using cn)⟩, by omega⟩
  ·have hkn : k = (takesL x.op).length := by simp at ck; omega
   subst hkn
   rw [qv, ← hl, qv] at hall
   refine y4<|zSr<|z2 (zFF underlying61 rfl sizeOf59 rfl rfl)<|z2 (zLi isAgg59 rfl)<|zf (makes_spec _) rfl<|z2 (zMu rfl)<|z2 (zXi rfl rfl)<|z2 (zXb rfl rfl)<|z2 (zAi rfl)<|z2 (zAb rfl)<|z6<|zSr<|z2 (zMb rfl)<|z2 (yl rfl)<|z2 (zMb rfl)<|zt (s := 50) rfl (fun c1=>?_) (fun c1=>?_)
   ·refine z7 rfl rfl c1<|z7 rfl rfl c1<|z7 rfl rfl c1<|z7 rfl rfl c1<|z7 rfl rfl c1<|z7 rfl rfl c1<|z2 (zPt rfl c1 rfl)<|z2 (zAb rfl)<|z6<|zg<|zk (x := .bool _) rfl ?_
    exact jb (by unfold instT; rw [if_neg e1, w3 hall]; simp_all)
   ·refine z8 rfl rfl c1<|z2 (zp isAgg26 sizeOf26 rfl rfl)<|z8 rfl rfl c1<|z2 (zFF underlying61 rfl sizeOf3 rfl rfl)<|z8 rfl rfl c1<|z2 (zLi isAgg3 rfl)<|z8 rfl rfl c1<|zf (kind_spec f x.dst (hd (by simp_all))) rfl<|z8 rfl rfl c1<|z2 (zMi rfl)<|z8 rfl rfl c1<|z2 (y7 rfl rfl)<|z2 (zPf rfl c1 rfl)<|z2 (zAb rfl)<|z6<|zg<|zk (x := .bool _) rfl ?_
    exact jb (by unfold instT; rw [if_neg e1, w3 hall]; simp_all)
def phiT (f : PFunc) (p : PPhi) : Bool := !(p.args.any fun v => !decide (kindV f v = kindV f p.dst))
theorem yphi1_spec (f : PFunc) (p : PPhi) (v : Int) (hv : hasV f v = true) (hd : hasV f p.dst = true) : AFun prog E 221 ([.int .i64 v] ++ [.pf (encF f), .pf (encPhi p)]) (.bool (!decide (kindV f v = kindV f p.dst))) := by
 refine zo func221 rfl (by decide) rfl<|zSr<|z2 (zAb rfl)<|z6<|zd<|zu (fun j => false) (by kernel_rfl) rfl (zm (.rest _))<|zTk 0 rfl (zp isAgg26 sizeOf26 rfl rfl)<|zTk 1 rfl (zMi rfl)<|zTk 3 rfl (zp isAgg26 sizeOf26 rfl rfl)<|zTk 4 rfl (zFF underlying81 rfl sizeOf3 rfl rfl)<|zTk 5 rfl (zLi isAgg3 rfl)<|zOn 2 rfl<|zf (kind_spec _ _ (by assumption)) rfl<|z6<|zOn 6 rfl<|zf (kind_spec _ _ (by assumption)) rfl<|z6<|zTk 7 rfl (yj rfl rfl)<|zTk 8 rfl (zAb rfl)<|zDn<|zg<|zk (x := .bool _) rfl ?_
 simp_all
theorem yphi_spec (f : PFunc) (p : PPhi) (hp : okPhi p) (ha : p.args.all (hasV f) = true) (hd : hasV f p.dst = true) : AFun prog E 181 [.agg (encF f), .agg (encPhi p)] (.bool (phiT f p)) := by
 have hl1 := hp.1.lt
 refine zo func181 rfl (by decide) rfl<|zSr<|y9 (cs := _) rfl rfl rfl<|y9 (cs := _) rfl rfl rfl<|z2 (zAb rfl)<|z6<|zSr<|z2 (zFF underlying81 rfl sizeOf23 rfl rfl)<|z2 (zLf isAgg23 rfl)<|z2 (Gv.func rfl rfl)<|zf (containsFuncJ_spec p.args (by omega) (fun v hv => yphi1_spec f p v (List.all_eq_true.1 ha v hv) hd)) rfl<|z2 (yl rfl)<|z2 (zAb rfl)<|z6<|zg<|zk (x := .bool _) rfl ?_
 rfl
def termT (f : PFunc) (t : PTerm) : Bool := if t.kind = 0 then !decide (t.to0 = 0) else if t.kind = 1 then decide (kindV f t.var = 1) && !decide (t.to0 = 0) && !decide (t.to1 = 0) else decide (kindV f t.var = 0)
theorem yterm_spec (f : PFunc) (t : PTerm) (h : ¬ t.kind = 0 → hasV f t.var = true) : AFun prog E 183 [.agg (encF f), .agg (encTerm t)] (.bool (termT f t)) := by
 refine zo func183 rfl (by decide) rfl<|zSr<|y9 (cs := _) rfl rfl rfl<|y9 (cs := _) rfl rfl rfl<|z2 (zAb rfl)<|z6<|zd<|zSr<|z2 (zFF underlying56 rfl sizeOf53 rfl rfl)<|z2 (zLi isAgg53 rfl)<|z6<|zi<|zSr<|z2 (y7 rfl rfl)<|z2 (zAb rfl)<|z6<|zz rfl (fun c2=>?_) (fun c2=>?_)
 ·refine zSr<|z2 (zFF underlying56 rfl sizeOf54 rfl rfl)<|z2 (q3 (j := 0) underlying54 sizeOf3 rfl rfl rfl (by decide) rfl)<|z2 (zLi isAgg3 rfl)<|z2 (yj rfl rfl)<|z2 (zAb rfl)<|z6<|zg<|zk (x := .bool _) rfl ?_
  exact jb (by unfold termT; simp_all)
 ·refine zSr<|z2 (y7 rfl rfl)<|z2 (zAb rfl)<|z6<|zz rfl (fun c3=>?_) (fun c3=>?_)
  ·refine zSr<|z2 (zp isAgg26 sizeOf26 rfl rfl)<|z2 (zFF underlying56 rfl sizeOf3 rfl rfl)<|z2 (zLi isAgg3 rfl)<|zf (kind_spec f t.var (h (by simp_all))) rfl<|z2 (y7 rfl rfl)<|z2 (zMb rfl)<|zt (s := 20) rfl (fun c4=>?_) (fun c4=>?_)
   ·refine z8 rfl rfl c4<|z2 (zFF underlying56 rfl sizeOf54 rfl rfl)<|z8 rfl rfl c4<|z2 (q3 (j := 0) underlying54 sizeOf3 rfl rfl rfl (by decide) rfl)<|z8 rfl rfl c4<|z2 (zLi isAgg3 rfl)<|z8 rfl rfl c4<|z2 (yj rfl rfl)<|z2 (zPt rfl c4 rfl)<|z2 (zMb rfl)<|zt (s := 26) rfl (fun c5=>?_) (fun c5=>?_)
    ·refine z8 rfl rfl c5<|z2 (zFF underlying56 rfl sizeOf54 rfl rfl)<|z8 rfl rfl c5<|z2 (q3 (j := 1) underlying54 sizeOf3 rfl rfl rfl (by decide) rfl)<|z8 rfl rfl c5<|z2 (zLi isAgg3 rfl)<|z8 rfl rfl c5<|z2 (yj rfl rfl)<|z2 (zPt rfl c5 rfl)<|z2 (zAb rfl)<|z6<|zg<|zk (x := .bool _) rfl ?_
     exact jb (by unfold termT; simp_all)
    ·refine z7 rfl rfl c5<|z7 rfl rfl c5<|z7 rfl rfl c5<|z7 rfl rfl c5<|z2 (zPf rfl c5 rfl)<|z2 (zAb rfl)<|z6<|zg<|zk (x := .bool _) rfl ?_
     exact jb (by unfold termT; simp_all)
   ·refine z7 rfl rfl c4<|z7 rfl rfl c4<|z7 rfl rfl c4<|z7 rfl rfl c4<|z2 (zPf rfl c4 rfl)<|z2 (zMb rfl)<|z7 rfl rfl rfl<|z7 rfl rfl rfl<|z7 rfl rfl rfl<|z7 rfl rfl rfl<|z2 (zPf rfl rfl rfl)<|z2 (zAb rfl)<|z6<|zg<|zk (x := .bool _) rfl ?_
    exact jb (by unfold termT; simp_all)
  ·refine zh<|zSr<|z2 (zp isAgg26 sizeOf26 rfl rfl)<|z2 (zFF underlying56 rfl sizeOf3 rfl rfl)<|z2 (zLi isAgg3 rfl)<|zf (kind_spec f t.var (h (by simp_all))) rfl<|z2 (y7 rfl rfl)<|z2 (zAb rfl)<|z6<|zg<|zk (x := .bool _) rfl ?_
   exact jb (by unfold termT; simp_all)
end Go.Proofs.YtiojekbkamegdaaGreatDoor
namespace Go.Proofs.YtiojekbkamegdaaGreatDoor
open Go.Proofs.Tryz
inductive Way (S : Int → List Int) (p : Int → Prop) (r : Int) : Int → Prop
 | refl : p r → Way S p r r
 | step {b c} : Way S p r b → c ∈ S b → p c → Way S p r c
theorem Way.end_ {S : Int → List Int} {p : Int → Prop} {r b : Int} (h : Way S p r b) : p b := by cases h <;> assumption
theorem Way.start {S : Int → List Int} {p : Int → Prop} {r b : Int} (h : Way S p r b) : p r := by induction h <;> assumption
theorem Way.mono {S : Int → List Int} {p q : Int → Prop} {r b : Int} (hpq : ∀ x, p x → q x) (h : Way S p r b) : Way S q r b := by
 induction h with
 | refl h => exact .refl (hpq _ h)
 | step _ h1 h2 ih => exact .step ih h1 (hpq _ h2)
theorem Way.trans {S : Int → List Int} {p : Int → Prop} {r b c : Int} (h : Way S p r b) (k : Way S p b c) : Way S p r c := by
 induction k with
 | refl _ => exact h
 | step _ h1 h2 ih => exact .step ih h1 h2
theorem Way.self {S : Int → List Int} {p : Int → Prop} {r b : Int} (h : Way S p r b) : Way S (fun x => p x ∧ Way S p r x) r b := by
 induction h with
 | refl h => exact .refl ⟨h, .refl h⟩
 | step h0 h1 h2 ih => exact .step ih h1 ⟨h2, .step h0 h1 h2⟩
theorem Way.last {S : Int → List Int} {p : Int → Prop} {r b : Int} (h : Way S p r b) : b = r ∨ ∃ c, c ∈ S r ∧ Way S (fun x => p x ∧ x ≠ r) c b := by
 induction h with
 | refl h => exact .inl rfl
 | @step b c h0 h1 h2 ih =>
  by_cases hc : c = r
  ·exact .inl hc
  ·right
   rcases ih with rfl | ⟨d, hd, hw⟩
   ·exact ⟨c, h1, .refl ⟨h2, hc⟩⟩
   ·exact ⟨d, hd, .step hw h1 ⟨h2, hc⟩⟩
inductive WayB (S : Int → List Int) (at_ : Int → Int) (p : Int → Prop) (r : Int) : Nat → Int → Prop
 | refl {k} : p r → WayB S at_ p r k r
 | fwd {k b c} : WayB S at_ p r k b → c ∈ S b → at_ b < at_ c → p c → WayB S at_ p r k c
 | back {k b c} : WayB S at_ p r k b → c ∈ S b → p c → WayB S at_ p r (k + 1) c
theorem WayB.end_ {S : Int → List Int} {at_ : Int → Int} {p : Int → Prop} {r b : Int} {k : Nat} (h : WayB S at_ p r k b) : p b := by cases h <;> assumption
theorem WayB.way {S : Int → List Int} {at_ : Int → Int} {p : Int → Prop} {r b : Int} {k : Nat} (h : WayB S at_ p r k b) : Way S p r b := by
 induction h with
 | refl h => exact .refl h
 | fwd _ h1 _ h2 ih => exact .step ih h1 h2
 | back _ h1 h2 ih => exact .step ih h1 h2
theorem WayB.ahead {S : Int → List Int} {at_ : Int → Int} {p q : Int → Prop} {r c b : Int} {k : Nat} (h : WayB S at_ q c k b) (hqp : ∀ x, q x → p x) (hr : p r) (hc : c ∈ S r) : WayB S at_ p r (k + 1) b := by
 induction h with
 | refl h => exact .back (.refl hr) hc (hqp _ h)
 | fwd _ h1 h2 h3 ih => exact .fwd ih h1 h2 (hqp _ h3)
 | back _ h1 h2 ih => exact .back ih h1 (hqp _ h2)
theorem Way.short {S : Int → List Int} (at_ : Int → Int) : ∀ (n : Nat) (V : List Int) (p : Int → Prop) (r b : Int), V.length = n → (∀ x, p x → x ∈ V) → Way S p r b → ∃ k, k + 1 ≤ n ∧ WayB S at_ p r k b
 | 0, V, p, r, b, hl, hV, h => by
  have := hV _ h.start
  rw [List.eq_nil_of_length_eq_zero hl] at this; cases this
 | n + 1, V, p, r, b, hl, hV, h => by
  rcases h.last with rfl | ⟨c, hc, hw⟩
  ·exact ⟨0, by omega, .refl h.start⟩
  ·have hr := hV _ h.start
   obtain ⟨k, hk, hb⟩ := Way.short at_ n (V.erase r) (fun x => p x ∧ x ≠ r) c b (by rw [List.length_erase_of_mem hr, hl]; rfl) (fun x hx => (List.mem_erase_of_ne hx.2).2 (hV x hx.1)) hw
   exact ⟨k + 1, by omega, hb.ahead (fun x hx => hx.1) h.start hc⟩
def Rch (S : Int → List Int) (b : Int) : Prop := Way S (fun _ => True) 0 b
def Dom (S : Int → List Int) (a b : Int) : Prop := Rch S b ∧ ¬ Way S (fun x => x ≠ a) 0 b
section
variable {S : Int → List Int}
theorem Dom.refl {b : Int} (h : Rch S b) : Dom S b b := ⟨h, fun hw => hw.end_ rfl⟩
theorem Dom.root {b : Int} (h : Rch S b) : Dom S 0 b := ⟨h, fun hw => hw.start rfl⟩
theorem Dom.rch {a b : Int} (h : Dom S a b) : Rch S a := by
 refine Classical.byContradiction fun hn => h.2 ?_
 exact (Way.self h.1).mono fun x hx e => hn (e ▸ hx.2)
theorem Dom.trans {a b c : Int} (h : Dom S a b) (k : Dom S b c) : Dom S a c := by
 refine ⟨k.1, fun hw=>?_⟩
 refine k.2<|hw.self.mono fun x hx e => ?_
 subst e
 exact h.2 hx.2
theorem Dom.pred {a b p : Int} (h : Dom S a b) (hp : Rch S p) (he : b ∈ S p) (hab : a ≠ b) : Dom S a p :=
 ⟨hp, fun hw => h.2 (.step hw he (fun e => hab e.symm))⟩
theorem Dom.of_preds {a b : Int} (hb : Rch S b) (h0 : b ≠ 0) (h : ∀ p, Rch S p → b ∈ S p → Dom S a p) : Dom S a b := by
 refine ⟨hb, fun hw=>?_⟩
 cases hw with
 | refl _ => exact h0 rfl
 | step h1 h2 h3 => exact (h _ (h1.mono fun _ _ => trivial) h2).2 h1
end
inductive Anc (N : Int → Int) : Int → Int → Prop
 | refl (x) : Anc N x x
 | up {x a} : x ≠ 0 → N x ≠ -1 → Anc N (N x) a → Anc N x a
theorem Anc.trans {N : Int → Int} {x y z : Int} (h : Anc N x y) (k : Anc N y z) : Anc N x z := by
 induction h with
 | refl => exact k
 | up h1 h2 _ ih => exact .up h1 h2 (ih k)
theorem Anc.cases' {N : Int → Int} {x a : Int} (h : Anc N x a) : a = x ∨ (x ≠ 0 ∧ N x ≠ -1 ∧ Anc N (N x) a) := by
 cases h with
 | refl => exact .inl rfl
 | up h1 h2 h3 => exact .inr ⟨h1, h2, h3⟩
structure Ord (S : Int → List Int) (at_ : Int → Int) (V : List Int) : Prop where
 mem : ∀ b, b ∈ V ↔ Rch S b
 pos : ∀ b, b ∈ V ↔ 0 ≤ at_ b
 inj : ∀ a b, a ∈ V → b ∈ V → at_ a = at_ b → a = b
 zero : at_ 0 = 0
 fwd : ∀ b, b ∈ V → b ≠ 0 → ∃ p, p ∈ V ∧ b ∈ S p ∧ at_ p < at_ b
 none : ∀ b, b ∉ V → at_ b = -1
 nn : ∀ b, b ∈ V → 0 ≤ b
structure NInv (S : Int → List Int) (at_ : Int → Int) (V : List Int) (N : Int → Int) : Prop where
 zero : N 0 = 0
 mem : ∀ b, N b ≠ -1 → b ∈ V
 near : ∀ b, b ≠ 0 → N b ≠ -1 → N b ∈ V ∧ N (N b) ≠ -1 ∧ at_ (N b) < at_ b
 path : ∀ b, b ≠ 0 → N b ≠ -1 → Way S (fun x => at_ (N b) ≤ at_ x) (N b) b
 dom : ∀ b d, N b ≠ -1 → Dom S d b → Anc N b d
section
variable {S : Int → List Int} {at_ : Int → Int} {V : List Int} {N : Int → Int}
theorem Ord.zmem (hV : Ord S at_ V) : (0 : Int) ∈ V := (hV.mem 0).2 (.refl trivial)
theorem NInv.anc (hN : NInv S at_ V N) {x a : Int} (hx : N x ≠ -1) (h : Anc N x a) : N a ≠ -1 ∧ at_ a ≤ at_ x ∧ Way S (fun y => at_ a ≤ at_ y) a x := by
 induction h with
 | refl x => exact ⟨hx, Int.le_refl _, .refl (Int.le_refl _)⟩
 | @up x a h1 h2 h3 ih =>
  obtain ⟨g1, g2, g3⟩ := hN.near x h1 h2
  obtain ⟨i1, i2, i3⟩ := ih g2
  refine ⟨i1, by omega, i3.trans ((hN.path x h1 h2).mono fun y hy => by omega)⟩
theorem NInv.antisymm (hV : Ord S at_ V) (hN : NInv S at_ V N) {x a : Int} (hx : N x ≠ -1) (h : Anc N x a) (e : at_ x ≤ at_ a) : a = x := by
 rcases h.cases' with h | ⟨h1, h2, h3⟩
 ·exact h
 ·have g := hN.near x h1 h2
  have := (hN.anc g.2.1 h3).2.1
  omega
theorem NInv.root (hV : Ord S at_ V) (hN : NInv S at_ V N) : ∀ {x : Int}, N x ≠ -1 → Anc N x 0 := fun {x} hx => hN.dom x 0 hx (Dom.root ((hV.mem x).1 (hN.mem x hx)))
def meetF (N at_ : Int → Int) : Nat → Int → Int → Int
 | 0, a, _ => a
 | k + 1, a, b => if a = b then a else if at_ b < at_ a then meetF N at_ k (N a) b else meetF N at_ k a (N b)
theorem meet_anc (hV : Ord S at_ V) (hN : NInv S at_ V N) : ∀ (k : Nat) (a b : Int), N a ≠ -1 → N b ≠ -1 → at_ a + at_ b < k → N (meetF N at_ k a b) ≠ -1 ∧ ∀ x, Anc N (meetF N at_ k a b) x ↔ Anc N a x ∧ Anc N b x
 | 0, a, b, ha, hb, hk => by
  have h1 := (hV.pos a).1 (hN.mem a ha)
  have h2 := (hV.pos b).1 (hN.mem b hb)
  exact absurd hk (by omega)
 | k + 1, a, b, ha, hb, hk => by
  have h1 := (hV.pos a).1 (hN.mem a ha)
  have h2 := (hV.pos b).1 (hN.mem b hb)
  unfold meetF
  by_cases hab : a = b
  ·rw [if_pos hab]; subst hab; exact ⟨ha, fun x => ⟨fun h => ⟨h, h⟩, fun h => h.1⟩⟩
  ·rw [if_neg hab]
   by_cases hlt : at_ b < at_ a
   ·rw [if_pos hlt]
    have ha0 : a ≠ 0 := fun e => by rw [e, hV.zero] at hlt; omega
    obtain ⟨g1, g2, g3⟩ := hN.near a ha0 ha
    obtain ⟨i1, i2⟩ := meet_anc hV hN k (N a) b g2 hb (by omega)
    refine ⟨i1, fun x => (i2 x).trans ⟨fun h => ⟨.up ha0 ha h.1, h.2⟩, fun h => ⟨?_, h.2⟩⟩⟩
    rcases h.1.cases' with rfl | ⟨_, _, h3⟩
    ·have := (hN.anc hb h.2).2.1; omega
    ·exact h3
   ·rw [if_neg hlt]
    have hlt2 : at_ a < at_ b := by
     have : at_ a ≠ at_ b := fun e => hab (hV.inj a b (hN.mem a ha) (hN.mem b hb) e)
     omega
    have hb0 : b ≠ 0 := fun e => by rw [e, hV.zero] at hlt2; omega
    obtain ⟨g1, g2, g3⟩ := hN.near b hb0 hb
    obtain ⟨i1, i2⟩ := meet_anc hV hN k a (N b) ha g2 (by omega)
    refine ⟨i1, fun x => (i2 x).trans ⟨fun h => ⟨h.1, .up hb0 hb h.2⟩, fun h => ⟨h.1, ?_⟩⟩⟩
    rcases h.2.cases' with rfl | ⟨_, _, h3⟩
    ·have := (hN.anc ha h.1).2.1; omega
    ·exact h3
theorem meet_more (hV : Ord S at_ V) (hN : NInv S at_ V N) : ∀ (k j : Nat) (a b : Int), N a ≠ -1 → N b ≠ -1 → at_ a + at_ b < k → k ≤ j → meetF N at_ j a b = meetF N at_ k a b
 | 0, j, a, b, ha, hb, hk, _ => by
  have h1 := (hV.pos a).1 (hN.mem a ha)
  have h2 := (hV.pos b).1 (hN.mem b hb)
  exact absurd hk (by omega)
 | k + 1, 0, _, _, _, _, _, hj => by omega
 | k + 1, j + 1, a, b, ha, hb, hk, hj => by
  have h1 := (hV.pos a).1 (hN.mem a ha)
  have h2 := (hV.pos b).1 (hN.mem b hb)
  unfold meetF
  by_cases hab : a = b
  ·rw [if_pos hab, if_pos hab]
  ·rw [if_neg hab, if_neg hab]
   by_cases hlt : at_ b < at_ a
   ·rw [if_pos hlt, if_pos hlt]
    have ha0 : a ≠ 0 := fun e => by rw [e, hV.zero] at hlt; omega
    obtain ⟨g1, g2, g3⟩ := hN.near a ha0 ha
    exact meet_more hV hN k j (N a) b g2 hb (by omega) (by omega)
   ·rw [if_neg hlt, if_neg hlt]
    have hlt2 : at_ a < at_ b := by
     have : at_ a ≠ at_ b := fun e => hab (hV.inj a b (hN.mem a ha) (hN.mem b hb) e)
     omega
    have hb0 : b ≠ 0 := fun e => by rw [e, hV.zero] at hlt2; omega
    obtain ⟨g1, g2, g3⟩ := hN.near b hb0 hb
    exact meet_more hV hN k j a (N b) ha g2 (by omega) (by omega)
def bestF (N at_ : Int → Int) (K : Nat) : List Int → Int → Int
 | [], m => m
 | p :: ps, m => bestF N at_ K ps (if at_ p = -1 ∨ N p = -1 then m else if m = -1 then p else meetF N at_ K m p)
theorem best_anc (hV : Ord S at_ V) (hN : NInv S at_ V N) {K : Nat} (hK : ∀ a b, a ∈ V → b ∈ V → at_ a + at_ b < K) : ∀ (ps : List Int) (m : Int), N m ≠ -1 → 
  N (bestF N at_ K ps m) ≠ -1 ∧ ∀ x, Anc N (bestF N at_ K ps m) x ↔ Anc N m x ∧ ∀ p ∈ ps, N p ≠ -1 → Anc N p x
 | [], m, hm => ⟨hm, fun x => by simp [bestF]⟩
 | p :: ps, m, hm => by
  unfold bestF
  by_cases hp : at_ p = -1 ∨ N p = -1
  ·rw [if_pos hp]
   have hp1 : N p = -1 := by
    rcases hp with hp | hp
    ·exact Classical.byContradiction fun h => by have := (hV.pos p).1 (hN.mem p h); omega
    ·exact hp
   obtain ⟨i1, i2⟩ := best_anc hV hN hK ps m hm
   refine ⟨i1, fun x => (i2 x).trans ⟨fun h => ⟨h.1, fun q hq hqn => ?_⟩, fun h => ⟨h.1, fun q hq => h.2 q (.tail _ hq)⟩⟩⟩
   rcases List.mem_cons.1 hq with rfl | hq
   ·exact absurd hp1 hqn
   ·exact h.2 q hq hqn
  ·rw [if_neg hp]
   have hp1 : N p ≠ -1 := fun e => hp (.inr e)
   have hm0 : m ≠ -1 := fun e => by
    have h1 := hV.nn m (hN.mem m hm)
    omega
   rw [if_neg hm0]
   obtain ⟨j1, j2⟩ := meet_anc hV hN K m p hm hp1 (hK _ _ (hN.mem _ hm) (hN.mem _ hp1))
   obtain ⟨i1, i2⟩ := best_anc hV hN hK ps _ j1
   refine ⟨i1, fun x => (i2 x).trans ⟨fun h => ⟨((j2 x).1 h.1).1, fun q hq hqn => ?_⟩, fun h => ⟨(j2 x).2 ⟨h.1, h.2 p (.head _) hp1⟩, fun q hq => h.2 q (.tail _ hq)⟩⟩⟩
   rcases List.mem_cons.1 hq with rfl | hq
   ·exact ((j2 x).1 h.1).2
   ·exact h.2 q hq hqn
theorem best_none (hV : Ord S at_ V) (hN : NInv S at_ V N) {K : Nat} (hK : ∀ a b, a ∈ V → b ∈ V → at_ a + at_ b < K) : ∀ (ps : List Int), (∃ p ∈ ps, N p ≠ -1) →
  N (bestF N at_ K ps (-1)) ≠ -1 ∧ ∀ x, Anc N (bestF N at_ K ps (-1)) x ↔ ∀ p ∈ ps, N p ≠ -1 → Anc N p x
 | [], h => by obtain ⟨_, h, _⟩ := h; cases h
 | p :: ps, h => by
  unfold bestF
  by_cases hp : at_ p = -1 ∨ N p = -1
  ·rw [if_pos hp]
   have hp1 : N p = -1 := by
    rcases hp with hp | hp
    ·exact Classical.byContradiction fun h => by have := (hV.pos p).1 (hN.mem p h); omega
    ·exact hp
   obtain ⟨i1, i2⟩ := best_none hV hN hK ps (by
    obtain ⟨q, hq, hqn⟩ := h
    rcases List.mem_cons.1 hq with rfl | hq
    ·exact absurd hp1 hqn
    ·exact ⟨q, hq, hqn⟩)
   refine ⟨i1, fun x => (i2 x).trans ⟨fun h q hq hqn => ?_, fun h q hq => h q (.tail _ hq)⟩⟩
   rcases List.mem_cons.1 hq with rfl | hq
   ·exact absurd hp1 hqn
   ·exact h q hq hqn
  ·rw [if_neg hp, if_pos rfl]
   have hp1 : N p ≠ -1 := fun e => hp (.inr e)
   obtain ⟨i1, i2⟩ := best_anc hV hN hK ps p hp1
   refine ⟨i1, fun x => (i2 x).trans ⟨fun h q hq hqn => ?_, fun h => ⟨h p (.head _) hp1, fun q hq => h q (.tail _ hq)⟩⟩⟩
   rcases List.mem_cons.1 hq with rfl | hq
   ·exact h.1
   ·exact h.2 q hq hqn
def setN (N : Int → Int) (b m : Int) : Int → Int := fun x => if x = b then m else N x
theorem setN_same (N : Int → Int) (b m : Int) : setN N b m b = m := by simp [setN]
theorem setN_ne {N : Int → Int} {b m x : Int} (h : x ≠ b) : setN N b m x = N x := by simp [setN, h]
structure Meets (S : Int → List Int) (at_ : Int → Int) (V : List Int) (N : Int → Int) (b m : Int) : Prop where
 mem : b ∈ V
 ne : b ≠ 0
 has : N m ≠ -1
 anc : ∀ x, Anc N m x ↔ ∀ p, b ∈ S p → N p ≠ -1 → Anc N p x
 fwd : ∃ p, b ∈ S p ∧ N p ≠ -1 ∧ at_ p < at_ b
variable {b m : Int}
theorem Meets.lt (hN : NInv S at_ V N) (h : Meets S at_ V N b m) : at_ m < at_ b := by
 obtain ⟨p, h1, h2, h3⟩ := h.fwd
 have := (hN.anc h2 ((h.anc m).1 (.refl _) p h1 h2)).2.1
 omega
theorem Meets.mne (hN : NInv S at_ V N) (h : Meets S at_ V N b m) : m ≠ b := fun e => by have := h.lt hN; rw [e] at this; omega
theorem anc_low (hN : NInv S at_ V N) {x a : Int} (hx : N x ≠ -1) (hlt : at_ x < at_ b) : Anc (setN N b m) x a ↔ Anc N x a := by
 constructor
 ·intro h
  induction h with
  | refl => exact .refl _
  | @up x a h1 h2 h3 ih =>
   have hne : x ≠ b := fun e => by rw [e] at hlt; omega
   rw [setN_ne hne] at h2 h3 ih
   have := hN.near x h1 hx
   exact .up h1 hx (ih this.2.1 (by omega))
 ·intro h
  induction h with
  | refl => exact .refl _
  | @up x a h1 h2 h3 ih =>
   have hne : x ≠ b := fun e => by rw [e] at hlt; omega
   have := hN.near x h1 hx
   exact .up h1 (by rw [setN_ne hne]; exact hx) (by rw [setN_ne hne]; exact ih this.2.1 (by omega))
theorem anc_to {x a : Int} (h : Anc N x a) : Anc (setN N b m) x a ∨ (Anc (setN N b m) x b ∧ Anc N x b ∧ Anc N b a) := by
 induction h with
 | refl => exact .inl (.refl _)
 | @up x a h1 h2 h3 ih =>
  by_cases hxb : x = b
  ·subst hxb; exact .inr ⟨.refl _, .refl _, .up h1 h2 h3⟩
  ·rcases ih with h | ⟨h, h', h''⟩
   ·exact .inl (.up h1 (by rw [setN_ne hxb]; exact h2) (by rw [setN_ne hxb]; exact h))
   ·exact .inr ⟨.up h1 (by rw [setN_ne hxb]; exact h2) (by rw [setN_ne hxb]; exact h), .up h1 h2 h', h''⟩
theorem anc_from {x a : Int} (h : Anc (setN N b m) x a) : Anc N x a ∨ (Anc N x b ∧ Anc (setN N b m) b a) := by
 induction h with
 | refl => exact .inl (.refl _)
 | @up x a h1 h2 h3 ih =>
  by_cases hxb : x = b
  ·subst hxb; exact .inr ⟨.refl _, .up h1 h2 h3⟩
  ·rw [setN_ne hxb] at h2 ih
   rcases ih with h | ⟨h, h'⟩
   ·exact .inl (.up h1 h2 h)
   ·exact .inr ⟨.up h1 h2 h, h'⟩
theorem Meets.up (hV : Ord S at_ V) (hN : NInv S at_ V N) (h : Meets S at_ V N b m) {a : Int} : Anc (setN N b m) b a ↔ a = b ∨ Anc N m a := by
 have hl := h.lt hN
 have hm1 : m ≠ -1 := fun e => by have := hV.nn m (hN.mem m h.has); omega
 constructor
 ·intro ha
  rcases ha.cases' with e | ⟨_, _, h3⟩
  ·exact .inl e
  ·rw [setN_same] at h3; exact .inr ((anc_low hN h.has hl).1 h3)
 ·rintro (e | h3)
  ·subst e; exact .refl _
  ·exact .up h.ne (by rw [setN_same]; exact hm1) (by rw [setN_same]; exact (anc_low hN h.has hl).2 h3)
theorem NInv.set (hV : Ord S at_ V) (hN : NInv S at_ V N) (h : Meets S at_ V N b m) : NInv S at_ V (setN N b m) := by
 have hl := h.lt hN
 have hmb := h.mne hN
 have hm1 : m ≠ -1 := fun e => by have := hV.nn m (hN.mem m h.has); omega
 have hset : ∀ x, N x ≠ -1 → setN N b m x ≠ -1 := fun x hx => by
  unfold setN; split
  ·exact hm1
  ·exact hx
 refine ⟨by rw [setN_ne h.ne.symm]; exact hN.zero, fun x hx => ?_, fun x h0 hx => ?_, fun x h0 hx => ?_, fun x d hx hd => ?_⟩
 ·by_cases e : x = b
  ·subst e; exact h.mem
  ·rw [setN_ne e] at hx; exact hN.mem x hx
 ·by_cases e : x = b
  ·subst e; rw [setN_same]; exact ⟨hN.mem m h.has, hset m h.has, hl⟩
  ·rw [setN_ne e] at hx ⊢
   have := hN.near x h0 hx
   exact ⟨this.1, hset _ this.2.1, this.2.2⟩
 ·by_cases e : x = b
  ·subst e; rw [setN_same]
   obtain ⟨p, h1, h2, h3⟩ := h.fwd
   have := (hN.anc h2 ((h.anc m).1 (.refl _) p h1 h2)).2.2
   exact .step this h1 (by omega)
  ·rw [setN_ne e] at hx ⊢; exact hN.path x h0 hx
 ·have hb : ∀ d, Dom S d b → Anc (setN N b m) b d := fun d hd => (h.up hV hN).2 (by
   by_cases e : d = b
   ·exact .inl e
   ·exact .inr ((h.anc d).2 fun p hp hpn => hN.dom p d hpn (hd.pred ((hV.mem p).1 (hN.mem p hpn)) hp e)))
  by_cases e : x = b
  ·subst e; exact hb d hd
  ·rw [setN_ne e] at hx
   rcases anc_to (b := b) (m := m) (hN.dom x d hx hd) with h1 | ⟨h1, h2, h3⟩
   ·exact h1
   ·refine h1.trans (hb d ?_)
    have hx2 := hN.anc hx h2
    by_cases hdb : d = b
    ·subst hdb; exact .refl ((hV.mem d).1 h.mem)
    ·refine ⟨(hV.mem b).1 h.mem, fun hw=>?_⟩
     have hlt : at_ d < at_ b := by
      rcases Int.lt_or_le (at_ d) (at_ b) with g | g
      ·exact g
      ·exact absurd (hN.antisymm hV hx2.1 h3 g) hdb
     exact hd.2 (hw.trans (hx2.2.2.mono fun y hy e => by subst e; omega))
end
end Go.Proofs.YtiojekbkamegdaaGreatDoor
namespace Go.Proofs.YtiojekbkamegdaaGreatDoor
open Go.Proofs.Tryz
section
variable {S : Int → List Int} {at_ : Int → Int} {V : List Int} {N : Int → Int} {b m : Int}
theorem WayB.le {p : Int → Prop} {r x : Int} {k j : Nat} (h : WayB S at_ p r k x) (hj : k ≤ j) : WayB S at_ p r j x := by
 induction h generalizing j with
 | refl h => exact .refl h
 | fwd _ h1 h2 h3 ih => exact .fwd (ih hj) h1 h2 h3
 | back _ h1 h2 ih =>
  obtain ⟨i, rfl⟩ : ∃ i, j = i + 1 := ⟨j - 1, by omega⟩
  exact .back (ih (by omega)) h1 h2
theorem WayB.by_ {p : Int → Prop} {r x : Int} {k : Nat} (b : Int) (h : WayB S at_ p r k x) : WayB S at_ (fun y => p y ∧ y ≠ b) r k x ∨ WayB S at_ p r k b := by
 induction h with
 | @refl k h =>
  by_cases e : r = b
  ·subst e; exact .inr (.refl h)
  ·exact .inl (.refl ⟨h, e⟩)
 | @fwd k c d h0 h1 h2 h3 ih =>
  rcases ih with ih | ih
  ·by_cases e : d = b
   ·subst e; exact .inr (.fwd h0 h1 h2 h3)
   ·exact .inl (.fwd ih h1 h2 ⟨h3, e⟩)
  ·exact .inr ih
 | @back k c d h0 h1 h2 ih =>
  rcases ih with ih | ih
  ·by_cases e : d = b
   ·subst e; exact .inr (.back h0 h1 h2)
   ·exact .inl (.back ih h1 ⟨h2, e⟩)
  ·exact .inr (ih.le (by omega))
theorem WayB.mono {p q : Int → Prop} {r x : Int} {k : Nat} (hpq : ∀ y, p y → q y) (h : WayB S at_ p r k x) : WayB S at_ q r k x := by
 induction h with
 | refl h => exact .refl (hpq _ h)
 | fwd _ h1 h2 h3 ih => exact .fwd ih h1 h2 (hpq _ h3)
 | back _ h1 h2 ih => exact .back ih h1 (hpq _ h2)
def PB (S : Int → List Int) (at_ : Int → Int) (N : Int → Int) (j : Nat) (x : Int) : Prop := ∀ i, i < j → ∀ a, Anc N x a → ¬ WayB S at_ (fun y => y ≠ a) 0 i x
theorem PB.le {j k : Nat} {x : Int} (h : PB S at_ N j x) (hk : k ≤ j) : PB S at_ N k x := fun i hi => h i (by omega)
theorem PB.zero (x : Int) : PB S at_ N 0 x := fun i hi => by omega
theorem PB.none {x : Int} (hx : N x = -1) (j : Nat) : PB S at_ N j x := fun i _ a ha hw => by
 rcases ha.cases' with rfl | ⟨_, h, _⟩
 ·exact hw.end_ rfl
 ·exact h hx
theorem PB.root (j : Nat) : PB S at_ N j 0 := fun i _ a ha hw => by
 rcases ha.cases' with rfl | ⟨h, _, _⟩
 ·exact hw.end_ rfl
 ·exact h rfl
structure Rnd (S : Int → List Int) (at_ : Int → Int) (V : List Int) (N : Int → Int) (j : Nat) (t : Int) : Prop where
 inv : NInv S at_ V N
 has : ∀ x, x ∈ V → (at_ x < t ∨ 1 ≤ j) → N x ≠ -1
 done : ∀ x, x ∈ V → at_ x < t → PB S at_ N (j + 1) x
 all : ∀ x, x ∈ V → PB S at_ N j x
theorem way_in (hV : Ord S at_ V) {p : Int → Prop} {x : Int} {k : Nat} (h : WayB S at_ p 0 k x) : x ∈ V := (hV.mem x).2 (h.way.mono fun _ _ => trivial)
theorem Rnd.self (hV : Ord S at_ V) {j : Nat} (h : Rnd S at_ V N j (at_ b)) (hM : Meets S at_ V N b m) : PB S at_ (setN N b m) (j + 1) b := fun i hi a ha hw => by
 rcases (hM.up hV h.inv).1 ha with e | ha
 ·exact hw.end_ e.symm
 ·cases hw with
  | refl _ => exact hM.ne rfl
  | @fwd _ p _ h1 h2 h3 h4 =>
   have hp := way_in hV h1
   have hpn := h.has p hp (.inl h3)
   exact h.done p hp h3 i hi a ((hM.anc a).1 ha p h2 hpn) h1
  | @back k p _ h1 h2 h3 =>
   have hp := way_in hV h1
   have hpn := h.has p hp (.inr (by omega))
   exact h.all p hp k (by omega) a ((hM.anc a).1 ha p h2 hpn) h1
theorem Rnd.other (hV : Ord S at_ V) {j : Nat} (h : Rnd S at_ V N j (at_ b)) (hM : Meets S at_ V N b m) {x : Int} {k : Nat} (hk : k ≤ j + 1) (hx : PB S at_ N k x) : PB S at_ (setN N b m) k x := fun i hi a ha hw => by
 rcases anc_from ha with h1 | ⟨h1, h2⟩
 ·exact hx i hi a h1 hw
 ·rcases hw.by_ b with h3 | h3
  ·exact hx i hi b h1 (h3.mono fun y hy => hy.2)
  ·exact h.self hV hM i (by omega) a h2 h3
theorem Rnd.step (hV : Ord S at_ V) {j : Nat} (h : Rnd S at_ V N j (at_ b)) (hM : Meets S at_ V N b m) : Rnd S at_ V (setN N b m) j (at_ b + 1) := by
 have hm1 : m ≠ -1 := fun e => by have := hV.nn m (h.inv.mem m hM.has); omega
 refine ⟨h.inv.set hV hM, fun x hx hc => ?_, fun x hx hc => ?_, fun x hx => h.other hV hM (by omega) (h.all x hx)⟩
 ·by_cases e : x = b
  ·subst e; rw [setN_same]; exact hm1
  ·rw [setN_ne e]
   refine h.has x hx ?_
   rcases hc with hc | hc
   ·left
    have : at_ x ≠ at_ b := fun e2 => e (hV.inj x b hx hM.mem e2)
    omega
   ·exact .inr hc
 ·by_cases e : x = b
  ·subst e; exact h.self hV hM
  ·have : at_ x ≠ at_ b := fun e2 => e (hV.inj x b hx hM.mem e2)
   exact h.other hV hM (Nat.le_refl _) (h.done x hx (by omega))
theorem Rnd.next (hV : Ord S at_ V) {j : Nat} {t : Int} (h : Rnd S at_ V N j t) (ht : ∀ x, x ∈ V → at_ x < t) : Rnd S at_ V N (j + 1) 1 :=
 ⟨h.inv, fun x hx _ => h.has x hx (.inl (ht x hx)), fun x hx h1 => by
  have : x = 0 := hV.inj x 0 hx hV.zmem (by rw [hV.zero]; have := (hV.pos x).1 hx; omega)
  subst this; exact PB.root _, fun x hx => h.done x hx (ht x hx)⟩
theorem Rnd.first (hV : Ord S at_ V) : Rnd S at_ V (fun x => if x = 0 then 0 else -1) 0 1 := by
 have hN : NInv S at_ V (fun x => if x = 0 then 0 else -1) := by
  refine ⟨by simp, fun x hx => ?_, fun x h0 hx => ?_, fun x h0 hx => ?_, fun x d hx hd => ?_⟩
  ·by_cases e : x = 0
   ·rw [e]; exact hV.zmem
   ·simp [e] at hx
  ·simp [h0] at hx
  ·simp [h0] at hx
  ·by_cases e : x = 0
   ·subst e
    have : d = 0 := Classical.byContradiction fun hd0 => hd.2 (.refl (fun e => hd0 e.symm))
    subst this; exact .refl _
   ·simp [e] at hx
 refine ⟨hN, fun x hx hc => ?_, fun x hx h1 => ?_, fun x hx => PB.zero x⟩
 ·rcases hc with hc | hc
  ·have : x = 0 := hV.inj x 0 hx hV.zmem (by rw [hV.zero]; have := (hV.pos x).1 hx; omega)
   simp [this]
  ·omega
 ·have : x = 0 := hV.inj x 0 hx hV.zmem (by rw [hV.zero]; have := (hV.pos x).1 hx; omega)
  subst this; exact PB.root _
structure Exact (S : Int → List Int) (at_ : Int → Int) (V : List Int) (N : Int → Int) : Prop where
 inv : NInv S at_ V N
 has : ∀ x, x ∈ V → N x ≠ -1
 anc : ∀ x a, x ∈ V → (Anc N x a ↔ Dom S a x)
theorem Rnd.exact (hV : Ord S at_ V) {j : Nat} {t : Int} (h : Rnd S at_ V N j t) (hj : V.length ≤ j) : Exact S at_ V N := by
 have h1 : 1 ≤ j := by
  have : 0 < V.length := List.length_pos_of_mem hV.zmem
  omega
 refine ⟨h.inv, fun x hx => h.has x hx (.inr h1), fun x a hx => ⟨fun ha=>?_, fun hd => h.inv.dom x a (h.has x hx (.inr h1)) hd⟩⟩
 refine ⟨(hV.mem x).1 hx, fun hw=>?_⟩
 obtain ⟨k, hk, hb⟩ := Way.short at_ V.length V (fun y => y ≠ a ∧ Way S (fun y => y ≠ a) 0 y) 0 x rfl (fun y hy => (hV.mem y).2 (hy.2.mono fun _ _ => trivial)) hw.self
 exact h.all x hx k (by omega) a ha (hb.mono fun y hy => hy.1)
theorem Exact.still (hV : Ord S at_ V) (h : Exact S at_ V N) (hM : Meets S at_ V N b m) : m = N b := by
 have hb := h.has b hM.mem
 obtain ⟨g1, g2, g3⟩ := h.inv.near b hM.ne hb
 have hl := hM.lt h.inv
 have h1 : Anc N m (N b) := (hM.anc _).2 fun p hp hpn => by
  have hd : Dom S (N b) b := (h.anc b (N b) hM.mem).1 (.up hM.ne hb (.refl _))
  have hp2 := h.inv.mem p hpn
  exact (h.anc p (N b) hp2).2 (hd.pred ((hV.mem p).1 hp2) hp (fun e => by rw [e] at g3; omega))
 have h2 : Anc N b m := (h.anc b m hM.mem).2 (Dom.of_preds ((hV.mem b).1 hM.mem) hM.ne fun p hp he => by
  have hp2 := (hV.mem p).2 hp
  exact (h.anc p m hp2).1 ((hM.anc m).1 (.refl _) p he (h.has p hp2)))
 rcases h2.cases' with e | ⟨_, _, h3⟩
 ·rw [e] at hl; omega
 ·have l1 := (h.inv.anc hM.has h1).2.1
  exact h.inv.antisymm hV g2 h3 (by omega)
end
end Go.Proofs.YtiojekbkamegdaaGreatDoor
namespace Go.Proofs.YtiojekbkamegdaaGreatDoor
open Go.Proofs.Tryz
def gi (l : List Int) (x : Int) : Int := if 0 ≤ x then (l[x.toNat]?).getD (-1) else -1
theorem gi_nat (l : List Int) (k : Nat) : gi l (k : Int) = (l[k]?).getD (-1) := by unfold gi; rw [if_pos (by omega)]; rfl
theorem gi_get {l : List Int} {x : Int} (h0 : 0 ≤ x) (h : x.toNat < l.length) : l[x.toNat]? = some (gi l x) := by
 unfold gi; rw [if_pos h0, qq h]; rfl
theorem gi_set {l : List Int} {b : Int} (h0 : 0 ≤ b) (h : b.toNat < l.length) (m : Int) : gi (l.set b.toNat m) = setN (gi l) b m := by
 funext x
 unfold gi setN
 by_cases hx : 0 ≤ x
 ·rw [if_pos hx]
  by_cases e : x = b
  ·subst e; rw [if_pos rfl, List.getElem?_set_self h]; rfl
  ·rw [if_neg e, List.getElem?_set_ne (by omega)]; dsimp only; rw [if_pos hx]
 ·rw [if_neg hx, if_neg (by omega)]; dsimp only; rw [if_neg hx]
theorem gi_out {l : List Int} {x : Int} (h : x < 0 ∨ (l.length : Int) ≤ x) : gi l x = -1 := by
 unfold gi
 split
 ·rw [List.getElem?_eq_none (by omega)]; rfl
 ·rfl
theorem gi_ext {l m : List Int} (hl : l.length = m.length) (h : ∀ x, gi l x = gi m x) : l = m := by
 refine List.ext_getElem hl fun k h1 h2 => ?_
 have := h (k : Int)
 rw [gi_nat, gi_nat, qq h1, qq h2] at this
 simpa using this
theorem set_same {l : List Int} {b : Int} (h0 : 0 ≤ b) : l.set b.toNat (gi l b) = l := by
 by_cases h : b.toNat < l.length
 ·have := gi_get h0 h
  refine List.ext_getElem? fun k=>?_
  by_cases e : k = b.toNat
  ·subst e; rw [List.getElem?_set_self h, this]
  ·rw [List.getElem?_set_ne (fun e2 => e e2.symm)]
 ·exact List.set_eq_of_length_le (by omega)
def atOf (n : Nat) (V : List Int) : List Int := (V.zipIdx).foldl (fun l p => l.set p.1.toNat (p.2 : Int)) (List.replicate n (-1))
def stepL (at_ : List Int) (K : Nat) (preds : Int → List Int) (l : List Int) (b : Int) : List Int := l.set b.toNat (bestF (gi l) (gi at_) K (preds b) (-1))
def passL (at_ : List Int) (K : Nat) (preds : Int → List Int) (V : List Int) (l : List Int) : List Int := V.tail.foldl (stepL at_ K preds) l
def passN (at_ : List Int) (K : Nat) (preds : Int → List Int) (V : List Int) (l : List Int) : Nat → List Int
 | 0 => l
 | k + 1 => passL at_ K preds V (passN at_ K preds V l k)
def first0 (n : Nat) : List Int := (List.replicate n (-1)).set 0 0
structure GOk (S : Int → List Int) (at_ : List Int) (V : List Int) (preds : Int → List Int) (n : Nat) : Prop where
 ord : Ord S (gi at_) V
 lt : ∀ b ∈ V, b < n
 row : ∀ (k : Nat), k < V.length → gi at_ (V[k]?.getD 0) = k
 preds : ∀ b ∈ V, ∀ p, p ∈ preds b ↔ b ∈ S p
section
variable {S : Int → List Int} {at_ V : List Int} {preds : Int → List Int} {n : Nat}
theorem GOk.pos (h : GOk S at_ V preds n) : 0 < V.length := List.length_pos_of_mem h.ord.zmem
theorem GOk.at_lt (h : GOk S at_ V preds n) {b : Int} (hb : b ∈ V) : ∃ k, k < V.length ∧ V[k]? = some b ∧ gi at_ b = k := by
 obtain ⟨k, hk, e⟩ := List.mem_iff_getElem.1 hb
 have := h.row k hk
 rw [qq hk] at this
 exact ⟨k, hk, by rw [qq hk, e], by rw [← e]; exact this⟩
theorem GOk.K (h : GOk S at_ V preds n) : ∀ a b, a ∈ V → b ∈ V → gi at_ a + gi at_ b < ((2 * V.length : Nat) : Int) := fun a b ha hb => by
 obtain ⟨j, hj, _, e1⟩ := h.at_lt ha
 obtain ⟨k, hk, _, e2⟩ := h.at_lt hb
 rw [e1, e2]; omega
theorem GOk.meets (h : GOk S at_ V preds n) {l : List Int} {j : Nat} {b : Int} (hR : Rnd S (gi at_) V (gi l) j (gi at_ b)) (hb : b ∈ V) (h0 : b ≠ 0) : Meets S (gi at_) V (gi l) b (bestF (gi l) (gi at_) (2 * V.length) (preds b) (-1)) := by
 obtain ⟨p, h1, h2, h3⟩ := h.ord.fwd b hb h0
 have hp := hR.has p h1 (.inl h3)
 obtain ⟨g1, g2⟩ := best_none h.ord hR.inv h.K (preds b) ⟨p, (h.preds b hb p).2 h2, hp⟩
 exact ⟨hb, h0, g1, fun x => (g2 x).trans ⟨fun hh q hq => hh q ((h.preds b hb q).2 hq), fun hh q hq => hh q ((h.preds b hb q).1 hq)⟩, p, h2, hp, h3⟩
theorem GOk.step (h : GOk S at_ V preds n) {l : List Int} {j k : Nat} {b : Int} (hl : l.length = n) (hk : 0 < k) (hb : V[k]? = some b) (hR : Rnd S (gi at_) V (gi l) j k) :
  Rnd S (gi at_) V (gi (stepL at_ (2 * V.length) preds l b)) j ((k + 1 : Nat) : Int) ∧ (V.length ≤ j → stepL at_ (2 * V.length) preds l b = l) ∧ gi at_ b = k ∧ b ∈ V ∧ b ≠ 0 := by
 obtain ⟨hk2, e⟩ := List.getElem?_eq_some_iff.1 hb
 have hbm : b ∈ V := e ▸ qu hk2
 have hat : gi at_ b = k := by have := h.row k hk2; rw [hb] at this; exact this
 have hb0 : b ≠ 0 := fun e2 => by rw [e2, h.ord.zero] at hat; omega
 have hnn := h.ord.nn b hbm
 have hblt := h.lt b hbm
 rw [← hat] at hR
 have hM := h.meets hR hbm hb0
 have hset := gi_set (l := l) hnn (by omega) (bestF (gi l) (gi at_) (2 * V.length) (preds b) (-1))
 refine ⟨?_, fun hj=>?_, hat, hbm, hb0⟩
 ·have := hR.step h.ord hM
  unfold stepL
  rw [hset]
  rw [hat] at this
  exact this
 ·have := (hR.exact h.ord hj).still h.ord hM
  unfold stepL
  rw [this, set_same hnn]
theorem stepL_len (K : Nat) (l : List Int) (b : Int) : (stepL at_ K preds l b).length = l.length := by unfold stepL; rw [List.length_set]
theorem fold_len (K : Nat) : ∀ (bs : List Int) (l : List Int), (bs.foldl (stepL at_ K preds) l).length = l.length
 | [], _ => rfl
 | b :: bs, l => by rw [List.foldl_cons, fold_len K bs, stepL_len]
theorem GOk.fold (h : GOk S at_ V preds n) {j : Nat} : ∀ (bs : List Int) (k : Nat) (l : List Int), l.length = n → 0 < k → V.drop k = bs → Rnd S (gi at_) V (gi l) j k →
  Rnd S (gi at_) V (gi (bs.foldl (stepL at_ (2 * V.length) preds) l)) j ((max k V.length : Nat) : Int)
 | [], k, l, hl, hk, hd, hR => by
  have : V.length ≤ k := by have := congrArg List.length hd; simp at this; omega
  rw [Nat.max_eq_left this]; exact hR
 | b :: bs, k, l, hl, hk, hd, hR => by
  have hk2 : k < V.length := by have := congrArg List.length hd; simp at this; omega
  have hb : V[k]? = some b := by have := congrArg (fun z : List Int => z[0]?) hd; simpa using this
  have := GOk.fold h bs (k + 1) _ (by rw [stepL_len, hl]) (by omega) (by rw [← List.drop_drop, hd]; rfl) (h.step hl hk hb hR).1
  rw [List.foldl_cons]
  rwa [show max (k + 1) V.length = max k V.length by omega] at this
theorem GOk.pass (h : GOk S at_ V preds n) {j : Nat} {l : List Int} (hl : l.length = n) (hR : Rnd S (gi at_) V (gi l) j 1) : Rnd S (gi at_) V (gi (passL at_ (2 * V.length) preds V l)) (j + 1) 1 := by
 have h1 := h.fold (j := j) V.tail 1 l hl (by omega) (by rw [List.drop_one]) hR
 refine h1.next h.ord fun x hx => ?_
 obtain ⟨k, hk, _, e⟩ := h.at_lt hx
 rw [e]
 have := h.pos
 omega
theorem passL_len (K : Nat) (l : List Int) : (passL at_ K preds V l).length = l.length := fold_len K _ _
theorem passN_len (K : Nat) (l : List Int) : ∀ k, (passN at_ K preds V l k).length = l.length
 | 0 => rfl
 | k + 1 => by rw [passN, passL_len, passN_len K l k]
theorem GOk.fixed (h : GOk S at_ V preds n) {j : Nat} {l : List Int} (hl : l.length = n) (hR : Rnd S (gi at_) V (gi l) j 1) (hf : passL at_ (2 * V.length) preds V l = l) : Exact S (gi at_) V (gi l) := by
 have : ∀ i, Rnd S (gi at_) V (gi l) (j + i) 1 := fun i => by
  induction i with
  | zero => exact hR
  | succ i ih => have := h.pass hl ih; rw [hf] at this; exact this
 exact (this V.length).exact h.ord (by omega)
theorem first_gi (hn : 0 < n) : gi (first0 n) = fun x => if x = 0 then 0 else -1 := by
 funext x
 unfold first0
 have := gi_set (l := List.replicate n (-1)) (b := 0) (by omega) (by simp; exact hn) 0
 rw [show (0 : Int).toNat = 0 from rfl] at this
 rw [this]
 unfold setN
 split
 ·rfl
 ·unfold gi
  split
  ·rw [List.getElem?_replicate]; split <;> rfl
  ·rfl
theorem GOk.npos (h : GOk S at_ V preds n) : 0 < n := by have := h.lt 0 h.ord.zmem; omega
theorem GOk.begin (h : GOk S at_ V preds n) : Rnd S (gi at_) V (gi (first0 n)) 0 1 := by
 rw [first_gi h.npos]; exact Rnd.first h.ord
theorem GOk.passN (h : GOk S at_ V preds n) : ∀ k, Rnd S (gi at_) V (gi (passN at_ (2 * V.length) preds V (first0 n) k)) k 1
 | 0 => h.begin
 | k + 1 => h.pass (by rw [passN_len]; simp [first0]) (h.passN k)
def nearT (at_ : List Int) (V : List Int) (preds : Int → List Int) (n : Nat) : List Int := Go.Proofs.YtiojekbkamegdaaGreatDoor.passN at_ (2 * V.length) preds V (first0 n) V.length
theorem GOk.near (h : GOk S at_ V preds n) : Exact S (gi at_) V (gi (nearT at_ V preds n)) := (h.passN V.length).exact h.ord (Nat.le_refl _)
theorem Exact.unique {at_ : Int → Int} {N M : Int → Int} (hV : Ord S at_ V) (h1 : Exact S at_ V N) (h2 : Exact S at_ V M) : N = M := by
 funext x
 by_cases hx : x ∈ V
 ·by_cases h0 : x = 0
  ·rw [h0, h1.inv.zero, h2.inv.zero]
  ·have key : ∀ {N M : Int → Int}, Exact S at_ V N → Exact S at_ V M → at_ (N x) ≤ at_ (M x) := fun {N M} h1 h2 => by
    obtain ⟨g1, g2, g3⟩ := h1.inv.near x h0 (h1.has x hx)
    have hd := (h1.anc x (N x) hx).1 (.up h0 (h1.has x hx) (.refl _))
    rcases ((h2.anc x (N x) hx).2 hd).cases' with e | ⟨_, _, h3⟩
    ·rw [e] at g3; omega
    ·obtain ⟨k1, k2, k3⟩ := h2.inv.near x h0 (h2.has x hx)
     exact (h2.inv.anc k2 h3).2.1
   have e1 := key h1 h2
   have e2 := key h2 h1
   exact hV.inj _ _ (h1.inv.near x h0 (h1.has x hx)).1 (h2.inv.near x h0 (h2.has x hx)).1 (by omega)
 ·have e1 : N x = -1 := Classical.byContradiction fun h => hx (h1.inv.mem x h)
  have e2 : M x = -1 := Classical.byContradiction fun h => hx (h2.inv.mem x h)
  rw [e1, e2]
theorem GOk.near_eq (h : GOk S at_ V preds n) {l : List Int} (hl : l.length = n) (hE : Exact S (gi at_) V (gi l)) : l = nearT at_ V preds n :=
 gi_ext (by rw [hl]; unfold nearT; rw [passN_len]; simp [first0]) fun x => congrFun (hE.unique h.ord h.near) x
end
end Go.Proofs.YtiojekbkamegdaaGreatDoor
namespace Go.Proofs.YtiojekbkamegdaaGreatDoor
open Go.Proofs.Tryz
abbrev DSt := List Bool × List Int × List (Int × Nat)
def gb (l : List Bool) (x : Int) : Bool := (l[x.toNat]?).getD false
def ge (l : List Int) (k : Nat) : Int := (l[k]?).getD 0
def dstep (E : Int → List Int) : DSt → DSt
 | (seen, out, []) => (seen, out, [])
 | (seen, out, (b, k) :: r) => if k = (E b).length then (seen, out ++ [b], r) else
   if gb seen (ge (E b) k) then (seen, out, (b, k + 1) :: r) else (seen.set (ge (E b) k).toNat true, out, (ge (E b) k, 0) :: (b, k + 1) :: r)
theorem dstep_cons (E : Int → List Int) (seen : List Bool) (out : List Int) (b : Int) (k : Nat) (r : List (Int × Nat)) : dstep E (seen, out, (b, k) :: r) = if k = (E b).length then (seen, out ++ [b], r) else
   if gb seen (ge (E b) k) then (seen, out, (b, k + 1) :: r) else (seen.set (ge (E b) k).toNat true, out, (ge (E b) k, 0) :: (b, k + 1) :: r) := rfl
def dfs0 (n : Nat) : DSt := ((List.replicate n false).set 0 true, [], [(0, 0)])
def dfsN (E : Int → List Int) (n : Nat) : Nat → DSt
 | 0 => dfs0 n
 | k + 1 => dstep E (dfsN E n k)
def orderT (E : Int → List Int) (n : Nat) : List Int := (dfsN E n (4 * n)).2.1.reverse
structure EOk (E : Int → List Int) (n : Nat) : Prop where
 npos : 0 < n
 rng : ∀ b : Int, 0 ≤ b → b < n → ∀ c ∈ E b, 0 ≤ c ∧ c < n
 len : ∀ b, (E b).length ≤ 2
def Led (E : Int → List Int) : List Int → List Int → Prop
 | [], _ => True
 | v :: r, s => (v = 0 ∨ ∃ p, v ∈ E p ∧ (p ∈ r ∨ p ∈ s)) ∧ Led E r s
structure DInv (E : Int → List Int) (n : Nat) (x : DSt) : Prop where
 len : x.1.length = n
 rng : ∀ v, v ∈ x.2.1 ++ x.2.2.map Prod.fst → 0 ≤ v ∧ v < n
 seen : ∀ v, 0 ≤ v → (gb x.1 v = true ↔ v ∈ x.2.1 ++ x.2.2.map Prod.fst)
 nodup : (x.2.1 ++ x.2.2.map Prod.fst).Nodup
 rch : ∀ v, v ∈ x.2.1 ++ x.2.2.map Prod.fst → Rch E v
 done : ∀ b ∈ x.2.1, ∀ c ∈ E b, c ∈ x.2.1 ++ x.2.2.map Prod.fst
 part : ∀ q ∈ x.2.2, q.2 ≤ (E q.1).length ∧ ∀ i, i < q.2 → ge (E q.1) i ∈ x.2.1 ++ x.2.2.map Prod.fst
 led : Led E (x.2.1 ++ x.2.2.map Prod.fst) []
 last : (x.2.1 ++ x.2.2.map Prod.fst).getLast? = some 0
theorem led_app {E : Int → List Int} : ∀ {l r s : List Int}, Led E (l ++ r) s ↔ Led E l (r ++ s) ∧ Led E r s
 | [], r, s => by simp [Led]
 | v :: l, r, s => by
  rw [List.cons_append, Led, Led, led_app (l := l)]
  constructor
  ·rintro ⟨h, h1, h2⟩
   refine ⟨⟨?_, h1⟩, h2⟩
   rcases h with h | ⟨p, h, h3⟩
   ·exact .inl h
   ·exact .inr ⟨p, h, by simp only [List.mem_append] at h3 ⊢; rcases h3 with (h3 | h3) | h3 <;> simp [h3]⟩
  ·rintro ⟨⟨h, h1⟩, h2⟩
   refine ⟨?_, h1, h2⟩
   rcases h with h | ⟨p, h, h3⟩
   ·exact .inl h
   ·exact .inr ⟨p, h, by simp only [List.mem_append] at h3 ⊢; rcases h3 with h3 | h3 | h3 <;> simp [h3]⟩
theorem gb_set {l : List Bool} {v : Int} (h0 : 0 ≤ v) (hl : v.toNat < l.length) {x : Int} (hx : 0 ≤ x) : gb (l.set v.toNat true) x = true ↔ x = v ∨ gb l x = true := by
 unfold gb
 by_cases e : x = v
 ·subst e; rw [List.getElem?_set_self hl]; simp
 ·rw [List.getElem?_set_ne (by omega)]; simp [e]
theorem DInv.begin {E : Int → List Int} {n : Nat} (hE : EOk E n) : DInv E n (dfs0 n) := by
 have hn := hE.npos
 refine ⟨by simp [dfs0], fun v hv => ?_, fun v hv => ?_, by simp [dfs0], fun v hv => ?_, fun b hb => by simp [dfs0] at hb, fun q hq => ?_, ⟨.inl rfl, trivial⟩, rfl⟩
 ·simp [dfs0] at hv; omega
 ·have := gb_set (l := List.replicate n false) (v := 0) (by omega) (by simp; exact hn) hv
  show gb ((List.replicate n false).set 0 true) v = true ↔ v ∈ [] ++ [0]
  rw [show (0 : Int).toNat = 0 from rfl] at this
  rw [this]
  have h2 : gb (List.replicate n false) v = false := by unfold gb; rw [List.getElem?_replicate]; split <;> rfl
  simp [h2]
 ·simp [dfs0] at hv; subst hv; exact .refl trivial
 ·simp [dfs0] at hq; subst hq; exact ⟨qt _, fun i hi => by omega⟩
theorem DInv.step {E : Int → List Int} {n : Nat} (hE : EOk E n) {x : DSt} (h : DInv E n x) : DInv E n (dstep E x) := by
 obtain ⟨seen, out, st⟩ := x
 cases st with
 | nil => exact h
 | cons q r =>
  obtain ⟨b, k⟩ := q
  obtain ⟨hlen, hrng, hseen, hnd, hrch, hdone, hpart, hled, hlast⟩ := h
  dsimp only at hlen hrng hseen hnd hrch hdone hpart hled hlast
  rw [List.map_cons] at hrng hseen hnd hrch hdone hpart hled hlast
  have hb := hpart (b, k) (.head _)
  dsimp only at hb
  rw [dstep_cons]
  by_cases hk : k = (E b).length
  ·rw [if_pos hk]
   have e : (out ++ [b]) ++ r.map Prod.fst = out ++ b :: r.map Prod.fst := by simp
   refine ⟨hlen, ?_, ?_, ?_, ?_, ?_, ?_, ?_, ?_⟩ <;> dsimp only <;> rw [e]
   ·exact hrng
   ·exact hseen
   ·exact hnd
   ·exact hrch
   ·intro c hc
    rcases List.mem_append.1 hc with hc | hc
    ·exact hdone c hc
    ·obtain rfl := List.mem_singleton.1 hc
     intro d hd
     obtain ⟨i, hi, rfl⟩ := List.mem_iff_getElem.1 hd
     have := hb.2 i (by omega)
     unfold ge at this
     rwa [qq hi] at this
   ·exact fun q hq => hpart q (.tail _ hq)
   ·exact hled
   ·exact hlast
  ·rw [if_neg hk]
   have hk2 : k < (E b).length := by omega
   have hge : ge (E b) k = (E b)[k] := by unfold ge; rw [qq hk2]; rfl
   have hmem : ge (E b) k ∈ E b := hge ▸ qu hk2
   obtain ⟨c, hc⟩ : ∃ c, ge (E b) k = c := ⟨_, rfl⟩
   rw [hc] at hmem ⊢
   have hbr := hrng b (by simp)
   have hcr := hE.rng b hbr.1 hbr.2 c hmem
   by_cases hs : gb seen c = true
   ·rw [if_pos hs]
    refine ⟨hlen, ?_, ?_, ?_, ?_, ?_, fun q hq => ?_, ?_, ?_⟩ <;> dsimp only <;> rw [List.map_cons]
    ·exact hrng
    ·exact hseen
    ·exact hnd
    ·exact hrch
    ·exact hdone
    ·rcases List.mem_cons.1 hq with rfl | hq
     ·refine ⟨hk2, fun i hi => ?_⟩
      by_cases e : i = k
      ·subst e; dsimp only; rw [hc]; exact (hseen c hcr.1).1 hs
      ·exact hb.2 i (by dsimp only at hi; omega)
     ·exact hpart q (.tail _ hq)
    ·exact hled
    ·exact hlast
   ·rw [if_neg hs]
    have hnm : c ∉ out ++ b :: r.map Prod.fst := fun hm => hs ((hseen c hcr.1).2 hm)
    have hmm : ∀ v, v ∈ out ++ (c :: b :: r.map Prod.fst) ↔ v = c ∨ v ∈ out ++ b :: r.map Prod.fst := fun v => by
     simp only [List.mem_append, List.mem_cons]
     constructor
     ·rintro (h | h | h | h) <;> simp [h]
     ·rintro (h | h | h | h) <;> simp [h]
    refine ⟨by dsimp only; rw [List.length_set]; exact hlen, ?_, fun v hv => ?_, ?_, ?_, ?_, fun q hq => ?_, ?_, ?_⟩ <;> dsimp only <;> rw [List.map_cons, List.map_cons]
    ·intro v hv
     rcases (hmm v).1 hv with rfl | hv
     ·exact hcr
     ·exact hrng v hv
    ·rw [gb_set hcr.1 (by omega) hv, hmm, hseen v hv]
    ·have : (out ++ c :: b :: r.map Prod.fst).Perm (c :: (out ++ b :: r.map Prod.fst)) := List.perm_middle
     rw [this.nodup_iff, List.nodup_cons]
     exact ⟨hnm, hnd⟩
    ·intro v hv
     rcases (hmm v).1 hv with rfl | hv
     ·exact .step (hrch b (by simp)) hmem trivial
     ·exact hrch v hv
    ·exact fun a ha d hd => (hmm d).2 (.inr (hdone a ha d hd))
    ·rcases List.mem_cons.1 hq with rfl | hq
     ·exact ⟨qt _, fun i hi => by dsimp only at hi; omega⟩
     ·rcases List.mem_cons.1 hq with rfl | hq
      ·refine ⟨hk2, fun i hi => (hmm _).2 ?_⟩
       by_cases e : i = k
       ·subst e; left; exact hc
       ·exact .inr (hb.2 i (by dsimp only at hi; omega))
      ·exact ⟨(hpart q (.tail _ hq)).1, fun i hi => (hmm _).2 (.inr ((hpart q (.tail _ hq)).2 i hi))⟩
    ·rw [led_app] at hled ⊢
     refine ⟨?_, .inr ⟨b, hmem, .inl (.head _)⟩, hled.2⟩
     have weak : ∀ (l s t : List Int), (∀ x ∈ s, x ∈ t) → Led E l s → Led E l t := fun l s t hst => by
      induction l with
      | nil => exact fun _ => trivial
      | cons v l ih =>
       rintro ⟨h1, h2⟩
       refine ⟨?_, ih h2⟩
       rcases h1 with h1 | ⟨p, h1, h3⟩
       ·exact .inl h1
       ·exact .inr ⟨p, h1, h3.imp id (hst p)⟩
     exact weak _ _ _ (fun x hx => by simp only [List.append_nil] at hx ⊢; exact .tail _ hx) hled.1
    ·rw [List.getLast?_append, List.getLast?_cons_cons] 
     rw [List.getLast?_append] at hlast
     exact hlast
def dleft (x : DSt) : Nat := 4 * (x.1.filter (fun b => !b)).length + (x.2.2.map fun q => 3 - q.2).sum
theorem unseen_set : ∀ (l : List Bool) (i : Nat), l[i]? = some false → ((l.set i true).filter (fun b => !b)).length + 1 = (l.filter (fun b => !b)).length
 | [], i, h => by simp at h
 | b :: l, 0, h => by simp at h; subst h; simp
 | b :: l, i + 1, h => by
  have := unseen_set l i (by simpa using h)
  cases b <;> simp <;> omega
theorem DInv.less {E : Int → List Int} {n : Nat} (hE : EOk E n) {x : DSt} (h : DInv E n x) (hs : x.2.2 ≠ []) : dleft (dstep E x) < dleft x := by
 obtain ⟨seen, out, st⟩ := x
 cases st with
 | nil => exact absurd rfl hs
 | cons q r =>
  obtain ⟨b, k⟩ := q
  have hb := h.part (b, k) (.head _)
  have hl2 := hE.len b
  have hbr := h.rng b (by simp)
  dsimp only at hb
  rw [dstep_cons]
  unfold dleft
  by_cases hk : k = (E b).length
  ·rw [if_pos hk]; simp; omega
  ·rw [if_neg hk]
   have hk2 : k < (E b).length := by omega
   have hge : ge (E b) k = (E b)[k] := by unfold ge; rw [qq hk2]; rfl
   have hcr := hE.rng b hbr.1 hbr.2 _ (hge ▸ qu hk2)
   split
   ·simp; omega
   ·rename_i hg
    have hlt : (ge (E b) k).toNat < seen.length := by have := h.len; dsimp only at this; omega
    have := unseen_set seen (ge (E b) k).toNat (by
     unfold gb at hg
     rw [qq hlt] at hg ⊢
     simpa using hg)
    simp; omega
theorem dstep_end {E : Int → List Int} {x : DSt} (h : x.2.2 = []) : dstep E x = x := by
 obtain ⟨seen, out, st⟩ := x
 dsimp only at h
 subst h; rfl
section
variable {E : Int → List Int} {n : Nat} (hE : EOk E n)
include hE
theorem dfsN_inv : ∀ k, DInv E n (dfsN E n k)
 | 0 => DInv.begin hE
 | k + 1 => (dfsN_inv k).step hE
theorem dleft0 : dleft (dfs0 n) < 4 * n := by
 have hn := hE.npos
 have := unseen_set (List.replicate n false) 0 (by rw [List.getElem?_replicate, if_pos hn])
 have h2 : ((List.replicate n false).filter fun b => !b).length = n := by simp
 unfold dleft dfs0
 simp at this ⊢
 omega
theorem dfs_left : ∀ k, (dfsN E n k).2.2 = [] ∨ dleft (dfsN E n k) + k < 4 * n
 | 0 => .inr (by have := dleft0 hE; simpa [dfsN] using this)
 | k + 1 => by
  rcases dfs_left k with h | h
  ·left; rw [dfsN, dstep_end h]; exact h
  ·by_cases hs : (dfsN E n k).2.2 = []
   ·left; rw [dfsN, dstep_end hs]; exact hs
   ·right
    have := (dfsN_inv hE k).less hE hs
    rw [dfsN]; omega
theorem dfs_end : (dfsN E n (4 * n)).2.2 = [] := by
 rcases dfs_left hE (4 * n) with h | h
 ·exact h
 ·omega
omit hE in
theorem dfs_still {k : Nat} (h : (dfsN E n k).2.2 = []) (hk : k ≤ 4 * n) : dfsN E n (4 * n) = dfsN E n k := by
 have : ∀ j, dfsN E n (k + j) = dfsN E n k := fun j => by
  induction j with
  | zero => rfl
  | succ j ih => rw [← Nat.add_assoc, dfsN, ih, dstep_end h]
 have h2 := this (4 * n - k)
 rwa [show k + (4 * n - k) = 4 * n by omega] at h2
theorem order_mem (v : Int) : v ∈ orderT E n ↔ Rch E v := by
 have h := dfsN_inv hE (4 * n)
 have he := dfs_end hE
 unfold orderT
 obtain ⟨hlen, hrng, hseen, hnd, hrch, hdone, hpart, hled, hlast⟩ := h
 rw [he] at hrng hseen hnd hrch hdone hpart hled hlast
 simp only [List.map_nil, List.append_nil] at hrng hseen hnd hrch hdone hpart hled hlast
 rw [List.mem_reverse]
 refine ⟨hrch v, fun hr=>?_⟩
 unfold Rch at hr
 induction hr with
 | refl _ => exact List.mem_of_getLast? hlast
 | step _ h1 _ ih => exact hdone _ ih _ h1
theorem order_rng {v : Int} (hv : v ∈ orderT E n) : 0 ≤ v ∧ v < n := by
 have h := (dfsN_inv hE (4 * n)).rng
 exact h v (List.mem_append_left _ (by unfold orderT at hv; exact List.mem_reverse.1 hv))
theorem order_nodup : (orderT E n).Nodup := by
 have h := (dfsN_inv hE (4 * n)).nodup
 rw [dfs_end hE] at h
 unfold orderT
 rw [(List.reverse_perm _).nodup_iff]
 simpa using h
theorem order_head : (orderT E n)[0]? = some 0 := by
 have h := (dfsN_inv hE (4 * n)).last
 rw [dfs_end hE] at h
 unfold orderT
 rw [← List.head?_eq_getElem?, List.head?_reverse]
 simpa using h
theorem order_led (k : Nat) (v : Int) (hk : (orderT E n)[k]? = some v) (h0 : v ≠ 0) : ∃ (j : Nat) (p : Int), j < k ∧ (orderT E n)[j]? = some p ∧ v ∈ E p := by
 have h := (dfsN_inv hE (4 * n)).led
 rw [dfs_end hE] at h
 simp only [List.map_nil, List.append_nil] at h
 unfold orderT at hk ⊢
 generalize (dfsN E n (4 * n)).2.1 = out at h hk ⊢
 have key : ∀ (out : List Int), Led E out [] → ∀ k, out.reverse[k]? = some v → ∃ (j : Nat) (p : Int), j < k ∧ out.reverse[j]? = some p ∧ v ∈ E p := fun out => by
  induction out with
  | nil => intro _ k hk; simp at hk
  | cons w out ih =>
   rintro ⟨h1, h2⟩ k hk
   rw [List.reverse_cons] at hk ⊢
   by_cases hlt : k < out.reverse.length
   ·rw [List.getElem?_append_left hlt] at hk
    obtain ⟨j, p, h3, h4, h5⟩ := ih h2 k hk
    exact ⟨j, p, h3, by rw [List.getElem?_append_left (by omega)]; exact h4, h5⟩
   ·rw [List.getElem?_append_right (by omega)] at hk
    have hk0 : k = out.reverse.length ∧ w = v := by
     cases hq : k - out.reverse.length with
     | zero => rw [hq] at hk; simp at hk; exact ⟨by omega, hk⟩
     | succ q => rw [hq] at hk; simp at hk
    obtain ⟨rfl, rfl⟩ := hk0
    rcases h1 with h1 | ⟨p, h1, h3⟩
    ·exact absurd h1 h0
    ·have h3 : p ∈ out.reverse := by simpa using h3
     obtain ⟨j, hj, e⟩ := List.mem_iff_getElem.1 h3
     exact ⟨j, p, hj, by rw [List.getElem?_append_left hj, qq hj, e], h1⟩
 exact key out h k hk
end
end Go.Proofs.YtiojekbkamegdaaGreatDoor
namespace Go.Proofs.YtiojekbkamegdaaGreatDoor
open Go.Proofs.Tryz
def intsTo (n : Nat) : List Int := (List.range n).map Int.ofNat
theorem intsTo_len (n : Nat) : (intsTo n).length = n := by simp [intsTo]
theorem mem_intsTo {n : Nat} {x : Int} : x ∈ intsTo n ↔ 0 ≤ x ∧ x < n := by
 unfold intsTo
 rw [List.mem_map]
 constructor
 ·rintro ⟨k, hk, rfl⟩; have := List.mem_range.1 hk; exact ⟨Int.natCast_nonneg k, Int.ofNat_lt.2 this⟩
 ·rintro ⟨h0, h1⟩; exact ⟨x.toNat, List.mem_range.2 (by omega), w5 h0⟩
theorem intsTo_succ (n : Nat) : intsTo (n + 1) = intsTo n ++ [(n : Int)] := by unfold intsTo; rw [List.range_succ, List.map_append]; rfl
def predsT (E : Int → List Int) (n : Nat) (b : Int) : List Int := (intsTo n).flatMap fun i => ((E i).filter fun c => decide (c = b)).map fun _ => i
theorem mem_predsT {E : Int → List Int} {n : Nat} {b p : Int} (hE : EOk E n) (ho : ∀ x : Int, ¬ (0 ≤ x ∧ x < n) → E x = []) : p ∈ predsT E n b ↔ b ∈ E p := by
 unfold predsT
 rw [List.mem_flatMap]
 constructor
 ·rintro ⟨i, hi, h⟩
  obtain ⟨c, hc, rfl⟩ := List.mem_map.1 h
  obtain ⟨h1, h2⟩ := List.mem_filter.1 hc
  have h2 : c = b := by simpa using h2
  exact h2 ▸ h1
 ·intro h
  have hp : 0 ≤ p ∧ p < n := Classical.byContradiction fun hn => by rw [ho p hn] at h; cases h
  exact ⟨p, mem_intsTo.2 hp, List.mem_map.2 ⟨b, List.mem_filter.2 ⟨h, by simp⟩, rfl⟩⟩
theorem set_gi {l : List Int} {b : Int} (h0 : 0 ≤ b) (h : b.toNat < l.length) (m x : Int) : gi (l.set b.toNat m) x = if x = b then m else gi l x := by rw [gi_set h0 h]; rfl
theorem atOf_aux (n : Nat) : ∀ (W : List Int) (i : Nat) (l : List Int), l.length = n → W.Nodup → (∀ b ∈ W, 0 ≤ b ∧ b < n) →
  ((W.zipIdx i).foldl (fun l p => l.set p.1.toNat (p.2 : Int)) l).length = n ∧ (∀ (k : Nat) b, W[k]? = some b → gi ((W.zipIdx i).foldl (fun l p => l.set p.1.toNat (p.2 : Int)) l) b = ((i + k : Nat) : Int)) ∧
  ∀ b, b ∉ W → gi ((W.zipIdx i).foldl (fun l p => l.set p.1.toNat (p.2 : Int)) l) b = gi l b
 | [], i, l, hl, _, _ => ⟨hl, fun k b h => by simp at h, fun b _ => rfl⟩
 | v :: W, i, l, hl, hW, hr => by
  rw [List.zipIdx_cons, List.foldl_cons]
  rw [List.nodup_cons] at hW
  have hv := hr v (.head _)
  obtain ⟨g1, g2, g3⟩ := atOf_aux n W (i + 1) (l.set v.toNat (i : Int)) (by rw [List.length_set]; exact hl) hW.2 fun b hb => hr b (.tail _ hb)
  refine ⟨g1, fun k b h => ?_, fun b hb => ?_⟩
  ·cases k with
   | zero =>
    simp at h; subst h
    rw [g3 _ hW.1, set_gi hv.1 (by omega), if_pos rfl]; rfl
   | succ k =>
    rw [g2 k b (by simpa using h)]; omega
  ·rw [g3 b (fun h => hb (.tail _ h)), set_gi hv.1 (by omega), if_neg (fun e => hb (by rw [e]; exact .head _))]
theorem gi_rep (n : Nat) (x : Int) : gi (List.replicate n (-1)) x = -1 := by
 unfold gi; split
 ·rw [List.getElem?_replicate]; split <;> rfl
 ·rfl
structure Grph (E : Int → List Int) (n : Nat) : Prop extends EOk E n where
 out : ∀ x : Int, ¬ (0 ≤ x ∧ x < n) → E x = []
section
variable {E : Int → List Int} {n : Nat} (hE : Grph E n)
include hE
theorem at_row {k : Nat} {b : Int} (h : (orderT E n)[k]? = some b) : gi (atOf n (orderT E n)) b = k := by
 have := (atOf_aux n (orderT E n) 0 (List.replicate n (-1)) (by simp) (order_nodup hE.toEOk) fun b hb => order_rng hE.toEOk hb).2.1 k b h
 rw [Nat.zero_add] at this
 exact this
theorem at_none {b : Int} (h : b ∉ orderT E n) : gi (atOf n (orderT E n)) b = -1 := by
 have := (atOf_aux n (orderT E n) 0 (List.replicate n (-1)) (by simp) (order_nodup hE.toEOk) fun b hb => order_rng hE.toEOk hb).2.2 b h
 rw [gi_rep] at this
 exact this
theorem Grph.gok : GOk E (atOf n (orderT E n)) (orderT E n) (predsT E n) n := by
 have hpos : ∀ b, b ∈ orderT E n ↔ 0 ≤ gi (atOf n (orderT E n)) b := fun b => by
  constructor
  ·intro hb
   obtain ⟨k, hk, e⟩ := List.mem_iff_getElem.1 hb
   rw [at_row hE (k := k) (by rw [qq hk, e])]; omega
  ·intro h
   refine Classical.byContradiction fun hb=>?_
   rw [at_none hE hb] at h; omega
 refine ⟨⟨order_mem hE.toEOk, hpos, fun a b ha hb e => ?_, at_row hE (k := 0) (order_head hE.toEOk), fun b hb h0 => ?_, fun b hb => at_none hE hb, fun b hb => (order_rng hE.toEOk hb).1⟩, fun b hb => (order_rng hE.toEOk hb).2, fun k hk => ?_, fun b _ p => mem_predsT hE.toEOk hE.out⟩
 ·obtain ⟨j, hj, e1⟩ := List.mem_iff_getElem.1 ha
  obtain ⟨k, hk, e2⟩ := List.mem_iff_getElem.1 hb
  rw [at_row hE (k := j) (by rw [qq hj, e1]), at_row hE (k := k) (by rw [qq hk, e2])] at e
  have : j = k := by omega
  subst this
  rw [← e1, ← e2]
 ·obtain ⟨k, hk, e⟩ := List.mem_iff_getElem.1 hb
  obtain ⟨j, p, h1, h2, h3⟩ := order_led hE.toEOk k b (by rw [qq hk, e]) h0
  refine ⟨p, ?_, h3, ?_⟩
  ·obtain ⟨hj, e2⟩ := List.getElem?_eq_some_iff.1 h2
   exact e2 ▸ qu hj
  ·rw [at_row hE h2, at_row hE (k := k) (by rw [qq hk, e])]; omega
 ·rw [qq hk]
  exact at_row hE (qq hk)
end
def nearG (E : Int → List Int) (n : Nat) : List Int := nearT (atOf n (orderT E n)) (orderT E n) (predsT E n) n
theorem nearG_len (E : Int → List Int) (n : Nat) : (nearG E n).length = n := by unfold nearG nearT; rw [passN_len]; simp [first0]
def levS (N l : List Int) (b : Int) : List Int := l.set b.toNat (gi l (gi N b) + 1)
def levG (E : Int → List Int) (n : Nat) : List Int := (orderT E n).tail.foldl (levS (nearG E n)) (first0 n)
theorem levS_len (N l : List Int) (b : Int) : (levS N l b).length = l.length := by unfold levS; rw [List.length_set]
section
variable {E : Int → List Int} {n : Nat} (hE : Grph E n)
include hE
theorem Grph.exact : Exact E (gi (atOf n (orderT E n))) (orderT E n) (gi (nearG E n)) := hE.gok.near
theorem Grph.near_mem {b : Int} (hb : b ∈ orderT E n) (h0 : b ≠ 0) : gi (nearG E n) b ∈ orderT E n ∧ gi (atOf n (orderT E n)) (gi (nearG E n) b) < gi (atOf n (orderT E n)) b := by
 have := hE.exact.inv.near b h0 (hE.exact.has b hb)
 exact ⟨this.1, this.2.2⟩
structure LInv (E : Int → List Int) (n : Nat) (l : List Int) (k : Nat) : Prop where
 len : l.length = n
 zero : gi l 0 = 0
 row : ∀ b ∈ orderT E n, b ≠ 0 → gi (atOf n (orderT E n)) b < k → gi l b = gi l (gi (nearG E n) b) + 1 ∧ 0 ≤ gi l b
 none : ∀ b, (b ∈ orderT E n → (k : Int) ≤ gi (atOf n (orderT E n)) b) → b ≠ 0 → gi l b = -1
omit hE in
theorem first0_len (n : Nat) : (first0 n).length = n := by simp [first0]
theorem LInv.first : LInv E n (first0 n) 1 := by
 have hn := hE.npos
 refine ⟨first0_len n, by rw [first_gi hn]; rfl, fun b hb h0 hlt => ?_, fun b _ h0 => by rw [first_gi hn]; simp [h0]⟩
 have h1 := hE.gok.ord
 have : b = 0 := h1.inj b 0 hb h1.zmem (by rw [h1.zero]; have := (h1.pos b).1 hb; omega)
 exact absurd this h0
theorem LInv.step {l : List Int} {k : Nat} {b : Int} (hk : 0 < k) (hb : (orderT E n)[k]? = some b) (h : LInv E n l k) : LInv E n (levS (nearG E n) l b) (k + 1) := by
 have ho := hE.gok.ord
 obtain ⟨hk2, e⟩ := List.getElem?_eq_some_iff.1 hb
 have hbm : b ∈ orderT E n := e ▸ qu hk2
 have hat := at_row hE hb
 have hb0 : b ≠ 0 := fun e2 => by rw [e2, ho.zero] at hat; omega
 have hr := order_rng hE.toEOk hbm
 have hnr := hE.near_mem hbm hb0
 have hnb : gi (nearG E n) b ≠ b := fun e2 => by rw [e2] at hnr; omega
 have hlen := h.len
 have hst : ∀ x, gi (levS (nearG E n) l b) x = if x = b then gi l (gi (nearG E n) b) + 1 else gi l x := fun x => set_gi hr.1 (by omega) _ x
 refine ⟨by rw [levS_len]; exact h.len, by rw [hst, if_neg hb0.symm]; exact h.zero, fun x hx h0 hlt => ?_, fun x hx h0 => ?_⟩
 ·by_cases ex : x = b
  ·subst ex
   rw [hst, if_pos rfl, hst, if_neg hnb]
   refine ⟨rfl, ?_⟩
   by_cases hn0 : gi (nearG E n) x = 0
   ·rw [hn0, h.zero]; omega
   ·have := (h.row _ hnr.1 hn0 (by omega)).2; omega
  ·have hlt2 : gi (atOf n (orderT E n)) x < k := by
    have : gi (atOf n (orderT E n)) x ≠ gi (atOf n (orderT E n)) b := fun e2 => ex (ho.inj x b hx hbm e2)
    omega
   have hnx := hE.near_mem hx h0
   have hne : gi (nearG E n) x ≠ b := fun e2 => by rw [e2] at hnx; omega
   rw [hst, if_neg ex, hst, if_neg hne]
   exact h.row x hx h0 hlt2
 ·have ex : x ≠ b := fun e2 => by subst e2; have := hx hbm; omega
  rw [hst, if_neg ex]
  exact h.none x (fun hm => by have := hx hm; omega) h0
theorem LInv.fold : ∀ (bs : List Int) (k : Nat) (l : List Int), 0 < k → (orderT E n).drop k = bs → LInv E n l k → LInv E n (bs.foldl (levS (nearG E n)) l) (max k (orderT E n).length)
 | [], k, l, hk, hd, h => by
  have : (orderT E n).length ≤ k := by have := congrArg List.length hd; simp at this; omega
  rw [Nat.max_eq_left this]; exact h
 | b :: bs, k, l, hk, hd, h => by
  have hk2 : k < (orderT E n).length := by have := congrArg List.length hd; simp at this; omega
  have hb : (orderT E n)[k]? = some b := by have := congrArg (fun z : List Int => z[0]?) hd; simpa using this
  have := LInv.fold bs (k + 1) _ (by omega) (by rw [← List.drop_drop, hd]; rfl) (h.step hE hk hb)
  rw [List.foldl_cons]
  rwa [show max (k + 1) (orderT E n).length = max k (orderT E n).length by omega] at this
theorem Grph.lev : LInv E n (levG E n) (orderT E n).length := by
 have := LInv.fold hE (orderT E n).tail 1 _ (by omega) (by rw [List.drop_one]) (LInv.first hE)
 rwa [Nat.max_eq_right hE.gok.pos] at this
theorem Grph.at_lt {b : Int} (hb : b ∈ orderT E n) : gi (atOf n (orderT E n)) b < (orderT E n).length := by
 obtain ⟨k, hk, _, e⟩ := hE.gok.at_lt hb
 rw [e]; omega
theorem Grph.lev_near {b : Int} (hb : b ∈ orderT E n) (h0 : b ≠ 0) : gi (levG E n) b = gi (levG E n) (gi (nearG E n) b) + 1 := (hE.lev.row b hb h0 (hE.at_lt hb)).1
theorem Grph.lev_nn {b : Int} (hb : b ∈ orderT E n) : 0 ≤ gi (levG E n) b := by
 by_cases h0 : b = 0
 ·rw [h0, hE.lev.zero]; omega
 ·exact (hE.lev.row b hb h0 (hE.at_lt hb)).2
theorem Grph.lev_none {b : Int} (hb : b ∉ orderT E n) : gi (levG E n) b = -1 := hE.lev.none b (fun h => absurd h hb) (fun e => hb (by rw [e]; exact hE.gok.ord.zmem))
theorem Grph.lev_mem (b : Int) : gi (levG E n) b ≠ -1 ↔ b ∈ orderT E n := by
 refine ⟨fun h => Classical.byContradiction fun hb => h (hE.lev_none hb), fun hb h => ?_⟩
 have := hE.lev_nn hb; omega
theorem Grph.lev_anc {b a : Int} (hb : b ∈ orderT E n) (h : Anc (gi (nearG E n)) b a) : a ∈ orderT E n ∧ gi (levG E n) a ≤ gi (levG E n) b ∧ (gi (levG E n) b ≤ gi (levG E n) a → a = b) := by
 induction h with
 | refl b => exact ⟨hb, Int.le_refl _, fun _ => rfl⟩
 | @up x a h1 h2 h3 ih =>
  obtain ⟨g1, g2, g3⟩ := ih (hE.near_mem hb h1).1
  have := hE.lev_near hb h1
  exact ⟨g1, by omega, fun _ => by omega⟩
theorem Grph.dom_iff {a b : Int} (hb : b ∈ orderT E n) : Dom E a b ↔ Anc (gi (nearG E n)) b a := (hE.exact.anc b a hb).symm
end
def chainL (N : List Int) : Nat → Int → List Int
 | 0, _ => []
 | k + 1, b => b :: if b = 0 then [] else chainL N k (gi N b)
def domB (E : Int → List Int) (n : Nat) (a b : Int) : Bool := decide (gi (levG E n) b ≠ -1) && (chainL (nearG E n) n b).contains a
section
variable {E : Int → List Int} {n : Nat} (hE : Grph E n)
include hE
theorem chain_mem {a : Int} : ∀ (k : Nat) (b : Int), b ∈ orderT E n → gi (levG E n) b < k → (a ∈ chainL (nearG E n) k b ↔ Anc (gi (nearG E n)) b a)
 | 0, b, hb, hk => by have := hE.lev_nn hb; omega
 | k + 1, b, hb, hk => by
  unfold chainL
  rw [List.mem_cons]
  by_cases h0 : b = 0
  ·rw [if_pos h0]
   constructor
   ·rintro (h | h)
    ·subst h; exact .refl _
    ·cases h
   ·intro h
    rcases h.cases' with e | ⟨h1, _⟩
    ·exact .inl e
    ·exact absurd h0 h1
  ·rw [if_neg h0]
   have h1 := hE.near_mem hb h0
   have h2 := hE.lev_near hb h0
   rw [chain_mem k _ h1.1 (by omega)]
   constructor
   ·rintro (h | h)
    ·subst h; exact .refl _
    ·exact .up h0 (hE.exact.has b hb) h
   ·intro h
    rcases h.cases' with e | ⟨_, _, h3⟩
    ·exact .inl e
    ·exact .inr h3
theorem lev_lt {b : Int} (hb : b ∈ orderT E n) : gi (levG E n) b ≤ gi (atOf n (orderT E n)) b := by
 obtain ⟨k, hk⟩ : ∃ k : Nat, gi (atOf n (orderT E n)) b ≤ k := ⟨(gi (atOf n (orderT E n)) b).toNat, by omega⟩
 induction k generalizing b with
 | zero =>
  have ho := hE.gok.ord
  have : b = 0 := ho.inj b 0 hb ho.zmem (by rw [ho.zero]; have := (ho.pos b).1 hb; omega)
  rw [this, hE.lev.zero, ho.zero]; omega
 | succ k ih =>
  by_cases h0 : b = 0
  ·rw [h0, hE.lev.zero, hE.gok.ord.zero]; omega
  ·have h1 := hE.near_mem hb h0
   have h2 := hE.lev_near hb h0
   have := ih h1.1 (by omega)
   omega
omit hE in
theorem nodup_len : ∀ (l m : List Int), l.Nodup → (∀ x ∈ l, x ∈ m) → l.length ≤ m.length
 | [], _, _, _ => qt _
 | x :: l, m, h1, h2 => by
  rw [List.nodup_cons] at h1
  have hx := h2 x (.head _)
  have := nodup_len l (m.erase x) h1.2 fun y hy => (List.mem_erase_of_ne (fun e => h1.1 (by rw [← e]; exact hy))).2 (h2 y (.tail _ hy))
  have hp := List.length_pos_of_mem hx
  rw [List.length_erase_of_mem hx] at this
  rw [List.length_cons]; omega
theorem order_len : (orderT E n).length ≤ n := by
 have h1 := order_nodup hE.toEOk
 have h2 : ∀ x ∈ orderT E n, x ∈ intsTo n := fun x hx => mem_intsTo.2 (order_rng hE.toEOk hx)
 have := nodup_len _ _ h1 h2
 rwa [intsTo_len] at this
theorem Grph.domB_iff (a b : Int) : domB E n a b = true ↔ Dom E a b := by
 unfold domB
 rw [Bool.and_eq_true, decide_eq_true_iff, hE.lev_mem]
 constructor
 ·rintro ⟨hb, h⟩
  have h1 := lev_lt hE hb
  have h2 := hE.at_lt hb
  have h3 := order_len hE
  exact (hE.dom_iff hb).2 ((chain_mem hE n b hb (by omega)).1 (by simpa using h))
 ·intro h
  have hb := (order_mem hE.toEOk b).2 h.1
  have h1 := lev_lt hE hb
  have h2 := hE.at_lt hb
  have h3 := order_len hE
  exact ⟨hb, by simpa using (chain_mem hE n b hb (by omega)).2 ((hE.dom_iff hb).1 h)⟩
end
end Go.Proofs.YtiojekbkamegdaaGreatDoor
namespace Go.Proofs.YtiojekbkamegdaaGreatDoor
open Go.Proofs.Tryz
def endsL (t : PTerm) : List Int := if t.kind = 0 then [t.to0] else if t.kind = 1 then (if t.to0 = t.to1 then [t.to0] else [t.to0, t.to1]) else []
theorem endsL_len (t : PTerm) : (endsL t).length ≤ 2 := by unfold endsL; split <;> (try split) <;> (try split) <;> simp
def EndsOf (f : PFunc) (b : Int) : List Int := if 0 ≤ b then ((f.blocks[b.toNat]?).map fun c => endsL c.term).getD [] else []
theorem EndsOf_nat {f : PFunc} {k : Nat} (h : k < f.blocks.length) : EndsOf f (k : Int) = endsL f.blocks[k].term := by
 unfold EndsOf; rw [if_pos (by omega)]
 rw [show ((k : Int).toNat) = k from rfl, qq h]; rfl
theorem EndsOf_get {f : PFunc} {b : Int} (h0 : 0 ≤ b) (h : b.toNat < f.blocks.length) : EndsOf f b = endsL f.blocks[b.toNat].term := by
 unfold EndsOf; rw [if_pos h0, qq h]; rfl
theorem EndsOf_out {f : PFunc} {b : Int} (h : ¬ (0 ≤ b ∧ b < f.blocks.length)) : EndsOf f b = [] := by
 unfold EndsOf
 split
 ·rw [List.getElem?_eq_none (by omega)]; rfl
 ·rfl
theorem EndsOf_len (f : PFunc) (b : Int) : (EndsOf f b).length ≤ 2 := by
 unfold EndsOf
 split
 ·cases f.blocks[b.toNat]? with
  | none => simp
  | some c => exact endsL_len c.term
 ·simp
structure EndsOk (f : PFunc) : Prop where
 pos : 0 < f.blocks.length
 rng : ∀ b ∈ f.blocks, ∀ c ∈ endsL b.term, 0 ≤ c ∧ c < f.blocks.length
theorem EndsOk.grph {f : PFunc} (h : EndsOk f) : Grph (EndsOf f) f.blocks.length :=
 {npos := h.pos
  rng := fun b h0 h1 c hc => by
   rw [EndsOf_get h0 (by omega)] at hc
   exact h.rng _ (qu (by omega)) c hc
  len := EndsOf_len f
  out := fun _ hx => EndsOf_out hx }
def FromP (E : Int → List Int) (a shut b : Int) : Prop := a ≠ shut ∧ ∃ c, c ∈ E a ∧ Way E (fun x => x ≠ shut) c b
theorem FromP.step {E : Int → List Int} {a shut x y : Int} (h : (x = a ∧ a ≠ shut) ∨ FromP E a shut x) (he : y ∈ E x) (hy : y ≠ shut) : FromP E a shut y := by
 rcases h with ⟨rfl, h⟩ | ⟨h, c, hc, hw⟩
 ·exact ⟨h, y, he, .refl hy⟩
 ·exact ⟨h, c, hc, .step hw he hy⟩
theorem FromP.closed {E : Int → List Int} {a shut : Int} {out : Int → Prop} (hc : ∀ x y, x ≠ shut → (x = a ∨ out x) → y ∈ E x → y ≠ shut → out y) {b : Int} (h : FromP E a shut b) : out b := by
 obtain ⟨ha, c, hc1, hw⟩ := h
 induction hw with
 | refl h1 => exact hc a c ha (.inl rfl) hc1 h1
 | step h1 h2 h3 ih => exact hc _ _ h1.end_ (.inr ih) h2 h3
abbrev Plc := Int × Int
def mkBlk (v : Int) (i : Int) (b : PBlock) : List Plc := (b.phis.filter fun p => decide (p.dst = v)).map (fun _ => (i, -1)) ++ (b.insts.zipIdx.filter fun x => decide (x.1.dst = v)).map fun x => (i, (x.2 : Int))
def makings (f : PFunc) (v : Int) : List Plc := f.blocks.zipIdx.flatMap fun b => mkBlk v (b.2 : Int) b.1
def makerT (f : PFunc) (v : Int) : Plc := (makings f v).head?.getD (-1, 0)
def OnceP (f : PFunc) : Prop := ∀ v : Nat, v < f.vars.length → (makings f v).length ≤ 1 ∧ (makings f v ≠ [] → f.params.length ≤ v)
def lenAt (f : PFunc) (b : Int) : Int := ((f.blocks[b.toNat]?).map fun c => (c.insts.length : Int)).getD 0
end Go.Proofs.YtiojekbkamegdaaGreatDoor
namespace Go.Proofs.YtiojekbkamegdaaGreatDoor
open Go.Proofs.Tryz
open Go.Proofs
theorem ps23_1 : PlacesS prog 23 3 1 1 [.int .i64 0] := ⟨_, underlying23, sizeOf3, zeroValue3, by decide, by decide, by kernel_rfl⟩
theorem ps23_2 : PlacesS prog 23 3 2 1 [.int .i64 0, .int .i64 0] := ⟨_, underlying23, sizeOf3, zeroValue3, by decide, by decide, by kernel_rfl⟩
variable {E : World}
set_option maxRecDepth 20000
theorem ends_0 {t : PTerm} (h : t.kind = 0) : endsL t = [t.to0] := by unfold endsL; rw [if_pos h]
theorem ends_1 {t : PTerm} (h : t.kind = 1) (e : t.to0 = t.to1) : endsL t = [t.to0] := by unfold endsL; rw [if_neg (by omega), if_pos h, if_pos e]
theorem ends_2 {t : PTerm} (h : t.kind = 1) (e : ¬ t.to0 = t.to1) : endsL t = [t.to0, t.to1] := by unfold endsL; rw [if_neg (by omega), if_pos h, if_neg e]
theorem ends_3 {t : PTerm} (h0 : ¬ t.kind = 0) (h : ¬ t.kind = 1) : endsL t = [] := by unfold endsL; rw [if_neg h0, if_neg h]
theorem ends_spec (t : PTerm) : AFun prog E 114 [.agg (encTerm t)] (.fro 1 ((endsL t).map encI)) := by
 refine zo func114 rfl (by decide) rfl<|zSr<|y9 (cs := _) rfl rfl rfl<|z2 (zAr rfl)<|z6<|zd<|zi<|zd<|zSr<|z2 (zFF underlying56 rfl sizeOf53 rfl rfl)<|z2 (zLi isAgg53 rfl)<|z2 (y7 rfl rfl)<|z2 (zAb rfl)<|z6<|zr rfl (fun c0=>?_) (fun c0=>?_)
 ·refine zh<|yo rfl (by simpa using c0)<|zSr<|z2 (zFF underlying56 rfl sizeOf54 rfl rfl)<|z2 (q3 (j := 0) underlying54 sizeOf3 rfl rfl rfl (by decide) rfl)<|z2 (zLi isAgg3 rfl)<|zw (rows := [[_]]) ps23_1 rfl rfl rfl rfl rfl<|z2 (zAf rfl)<|z6<|zg<|zk (x := .fro _ _) rfl ?_
  rw [ends_0 c0]; rfl
 ·refine zRg<|z2 (zFF underlying56 rfl sizeOf53 rfl rfl)<|z2 (zLi isAgg53 rfl)<|z2 (y7 rfl rfl)<|z2 (zMb rfl)<|zt (s := 10) rfl (fun c1=>?_) (fun c1=>?_)
  ·refine z8 rfl rfl c1<|z2 (zFF underlying56 rfl sizeOf54 rfl rfl)<|z8 rfl rfl c1<|z2 (q3 (j := 0) underlying54 sizeOf3 rfl rfl rfl (by decide) rfl)<|z8 rfl rfl c1<|z2 (zLi isAgg3 rfl)<|z8 rfl rfl c1<|z2 (zFF underlying56 rfl sizeOf54 rfl rfl)<|z8 rfl rfl c1<|z2 (q3 (j := 1) underlying54 sizeOf3 rfl rfl rfl (by decide) rfl)<|z8 rfl rfl c1<|z2 (zLi isAgg3 rfl)<|z8 rfl rfl c1<|z2 (y7 rfl rfl)<|z2 (zPt rfl c1 rfl)<|z2 (zAb rfl)<|z6<|zz rfl (fun c2=>?_) (fun c2=>?_)
   ·refine zSr<|z2 (zFF underlying56 rfl sizeOf54 rfl rfl)<|z2 (q3 (j := 0) underlying54 sizeOf3 rfl rfl rfl (by decide) rfl)<|z2 (zLi isAgg3 rfl)<|zw (rows := [[_]]) ps23_1 rfl rfl rfl rfl rfl<|z2 (zAf rfl)<|z6<|zg<|zk (x := .fro _ _) rfl ?_
    rw [ends_1 (by simpa using c1) (by simpa using c2)]; rfl
   ·refine zSr<|z2 (zFF underlying56 rfl sizeOf53 rfl rfl)<|z2 (zLi isAgg53 rfl)<|z2 (y7 rfl rfl)<|z2 (zAb rfl)<|z6<|yo rfl (by simpa using c1)<|zSr<|z2 (zFF underlying56 rfl sizeOf54 rfl rfl)<|z2 (q3 (j := 0) underlying54 sizeOf3 rfl rfl rfl (by decide) rfl)<|z2 (zLi isAgg3 rfl)<|z2 (zFF underlying56 rfl sizeOf54 rfl rfl)<|z2 (q3 (j := 1) underlying54 sizeOf3 rfl rfl rfl (by decide) rfl)<|z2 (zLi isAgg3 rfl)<|zw (rows := [[_], [_]]) ps23_2 rfl rfl rfl rfl rfl<|z2 (zAf rfl)<|z6<|zg<|zk (x := .fro _ _) rfl ?_
    rw [ends_2 (by simpa using c1) (by simpa using c2)]; rfl
  ·refine z7 rfl rfl c1<|z7 rfl rfl c1<|z7 rfl rfl c1<|z7 rfl rfl c1<|z7 rfl rfl c1<|z7 rfl rfl c1<|z7 rfl rfl c1<|z2 (zPf rfl c1 rfl)<|z2 (zAb rfl)<|z6<|ym rfl rfl<|zSr<|z2 (zFF underlying56 rfl sizeOf53 rfl rfl)<|z2 (zLi isAgg53 rfl)<|z2 (y7 rfl rfl)<|z2 (zAb rfl)<|z6<|ym rfl (by simpa using c1)<|zh<|zSr<|z2 (zAr rfl)<|z6<|zg ?_
   repeat (first | refine aseqQ_ret ?_ | refine ablockQ_ret ?_)
   refine yw (GStep.slot (t := 2) rfl (impNil 1))<|zk (x := .fro _ _) rfl ?_
   rw [ends_3 (by simpa using c0) (by simpa using c1)]; rfl
def push1 (rows : List (List Int)) (c x : Int) : List (List Int) := rows.set c.toNat ((rows[c.toNat]?).getD [] ++ [x])
def pushes (rows : List (List Int)) (cs : List Int) (x : Int) : List (List Int) := cs.foldl (fun r c => push1 r c x) rows
theorem pushes_len (cs : List Int) (x : Int) : ∀ rows, (pushes rows cs x).length = rows.length := by
 induction cs with
 | nil => intro rows; rfl
 | cons c cs ih => intro rows; show (pushes (push1 rows c x) cs x).length = _; rw [ih]; unfold push1; simp
theorem pushes_snoc (rows : List (List Int)) (cs : List Int) (c x : Int) : pushes rows (cs ++ [c]) x = push1 (pushes rows cs x) c x := by unfold pushes; rw [List.foldl_append]; rfl
theorem push1_get {rows : List (List Int)} {c x : Int} (h0 : 0 ≤ c) (b : Nat) : (push1 rows c x)[b]? = (rows[b]?).map (· ++ if c = (b : Int) then [x] else []) := by
 unfold push1
 rw [List.getElem?_set]
 by_cases e : c.toNat = b
 ·have : c = (b : Int) := by omega
  rw [if_pos e, if_pos this, e]
  by_cases hb : b < rows.length
  ·rw [if_pos hb, qq hb]; rfl
  ·rw [if_neg hb, List.getElem?_eq_none (by omega)]; rfl
 ·have : ¬ c = (b : Int) := by omega
  rw [if_neg e, if_neg this]; simp
theorem pushes_get (x : Int) (b : Nat) : ∀ (cs : List Int) (rows : List (List Int)), (∀ c ∈ cs, 0 ≤ c) → (pushes rows cs x)[b]? = (rows[b]?).map (· ++ (cs.filter fun c => decide (c = (b : Int))).map fun _ => x)
 | [], rows, _ => by simp [pushes]
 | c :: cs, rows, h => by
  show (pushes (push1 rows c x) cs x)[b]? = _
  rw [pushes_get x b cs _ (fun c hc => h c (List.mem_cons_of_mem _ hc)), push1_get (h c (List.mem_cons_self ..))]
  cases rows[b]? with
  | none => rfl
  | some r =>
   by_cases e : c = (b : Int)
   ·simp [e]
   ·simp [e]
def predsR (f : PFunc) (k : Nat) : List (List Int) := (List.range f.blocks.length).map fun (b : Nat) => predsT (EndsOf f) k (b : Int)
theorem predsR_len (f : PFunc) (k : Nat) : (predsR f k).length = f.blocks.length := by unfold predsR; simp
theorem predsR_zero (f : PFunc) : List.replicate f.blocks.length [] = predsR f 0 := by
 apply List.ext_getElem
 ·rw [predsR_len]; simp
 ·intro i h1 h2
  unfold predsR predsT intsTo
  simp
theorem predsT_succ (E : Int → List Int) (k : Nat) (b : Int) : predsT E (k + 1) b = predsT E k b ++ ((E k).filter fun c => decide (c = b)).map fun _ => (k : Int) := by
 unfold predsT; rw [intsTo_succ, List.flatMap_append]; simp
theorem predsR_succ {f : PFunc} {k : Nat} (h0 : ∀ c ∈ EndsOf f k, 0 ≤ c) : pushes (predsR f k) (EndsOf f k) k = predsR f (k + 1) := by
 apply List.ext_getElem?
 intro b
 rw [pushes_get _ _ _ _ h0]
 by_cases hb : b < f.blocks.length
 ·unfold predsR
  rw [List.getElem?_map, List.getElem?_map, List.getElem?_range hb]
  simp only [Option.map_some]
  rw [predsT_succ]
 ·rw [List.getElem?_eq_none (by rw [predsR_len]; omega), List.getElem?_eq_none (by rw [predsR_len]; omega)]; rfl
theorem push_row {rows : List (List Int)} {c x : Int} (h : c.toNat < rows.length) : rows.set c.toNat (rows[c.toNat] ++ [x]) = push1 rows c x := by
 unfold push1; rw [qq h]; rfl
theorem predsT_len (f : PFunc) (b : Int) : ∀ k, (predsT (EndsOf f) k b).length ≤ 2 * k
 | 0 => by simp [predsT, intsTo]
 | k + 1 => by
  have h1 := predsT_len f b k
  have h2 := EndsOf_len f k
  have h3 := List.length_filter_le (fun c => decide (c = b)) (EndsOf f k)
  rw [predsT_succ, qw, qx]
  omega
theorem row_len {f : PFunc} {k b : Nat} {cs : List Int} {x : Int} (h0 : ∀ c ∈ cs, 0 ≤ c) (hb : b < (pushes (predsR f k) cs x).length) : (pushes (predsR f k) cs x)[b].length ≤ 2 * k + cs.length := by
 have hb2 : b < f.blocks.length := by rwa [pushes_len, predsR_len] at hb
 have h := pushes_get x b cs (predsR f k) h0
 have hr : (predsR f k)[b]? = some (predsT (EndsOf f) k (b : Int)) := by unfold predsR; rw [List.getElem?_map, List.getElem?_range hb2]; rfl
 rw [qq hb, hr] at h
 have h : (pushes (predsR f k) cs x)[b] = predsT (EndsOf f) k (b : Int) ++ (cs.filter fun c => decide (c = (b : Int))).map fun _ => x := by simpa using h
 have h2 := predsT_len f b k
 have h3 := List.length_filter_le (fun c => decide (c = (b : Int))) cs
 rw [h, qw, qx]
 omega
theorem preds_spec (f : PFunc) (hE : EndsOk f) (hn : f.blocks.length ≤ 100000) : AFun prog E 151 [.agg (encF f)] (froN eI (predsR f f.blocks.length)) := by
 refine zo func151 rfl (by decide) rfl<|zSr<|y9 (cs := _) rfl rfl rfl<|z2 (zAr rfl)<|z6<|zSr<|z2 (zFF underlying26 rfl sizeOf24 rfl rfl)<|z2 (zLf isAgg24 rfl)<|z2 (y2 underlying24 rfl)<|y3 (m := f.blocks.length) underlying118 type23 rfl rfl rfl rfl rfl (by simp) (by simp) (by show (24 : Int) * _ ≤ _; omega) (by omega) eI 3<|fun b11 => z2 (q7 (v := nref _ _) rfl)<|z6<|zd<|zSr<|z2 (zFF underlying26 rfl sizeOf24 rfl rfl)<|z2 (zLf isAgg24 rfl)<|z2 (y2 underlying24 rfl)<|z2 (zMi rfl)<|z6<|zi<|y5 (γ := Nat) [3, 13, 14] (fun k => [(15, .int .i64 k)]) (fun k => [(0, nestO eI 23 3 b11 (predsR f k))]) (fun k => k ≤ f.blocks.length) (fun k => f.blocks.length - k) 0 zR1 ⟨_, (.refl _), by rw [predsR_zero]⟩ (qt _) ?_
 rintro k hk
 refine zSr<|z2 (yb rfl rfl)<|z6<|zd<|zr rfl (fun ck=>?_) (fun ck=>?_)
 ·have hk2 : k < f.blocks.length := by simp at ck; omega
  have hEk : EndsOf f k = endsL f.blocks[k].term := EndsOf_nat hk2
  have hlen := endsL_len f.blocks[k].term
  have hrng := hE.rng _ (qu hk2)
  refine zh<|zd<|zi<|zSr<|z2 (zMi rfl)<|z2 (zIM k underlying24 sizeOf58 rfl rfl rfl (qq hk2))<|z2 (zp isAgg58 sizeOf58 rfl rfl)<|zy (cs := [.str ⟨#[]⟩, .raw (.slice none 0 0), .raw (.slice none 0 0), .int .i64 0, .int .i64 0, .int .i64 0, .int .i64 0]) zeroValue58 rfl rfl<|fun i5 => z2 (zAi rfl)<|zq sizeOf58 rfl rfl rfl rfl rfl rfl .head rfl<|z6<|zSr<|z2 (ze underlying58 rfl sizeOf56 (by decide) rfl rfl)<|z2 (Gv.loadAC (l := [_, _, _, _]) isAgg56 sizeOf56 rfl ⟨_, .head⟩ rfl rfl)<|zf (ends_spec _) rfl<|z2 (y2 underlying23 rfl)<|z2 (zMi rfl)<|z6<|zi<|y5 (γ := Nat) [3, 4, 13, 14, 15, 22, 23] (fun j => [(24, .int .i64 j)]) (fun j => [(0, nestO eI 23 3 b11 (pushes (predsR f k) ((endsL f.blocks[k].term).take j) k))]) (fun j => j ≤ (endsL f.blocks[k].term).length) (fun j => (endsL f.blocks[k].term).length - j) 0 zR1 ⟨_, (.drop (.refl _)), rfl⟩ (qt _) ?_
  rintro j hj
  refine zSr<|z2 (yb rfl rfl)<|z6<|zd<|zr rfl (fun cj=>?_) (fun cj=>?_)
  ·have hj2 : j < (endsL f.blocks[k].term).length := by simp at cj; omega
   obtain ⟨c, hc⟩ : ∃ c, (endsL f.blocks[k].term)[j] = c := ⟨_, rfl⟩
   have hr := hrng c (hc ▸ qu hj2)
   obtain ⟨rows, hrows⟩ : ∃ rows, pushes (predsR f k) ((endsL f.blocks[k].term).take j) k = rows := ⟨_, rfl⟩
   have hrl : rows.length = f.blocks.length := by rw [← hrows, pushes_len, predsR_len]
   have hcn : c.toNat < rows.length := by omega
   have hrow : rows[c.toNat].length ≤ 200002 := by
    have := row_len (f := f) (k := k) (b := c.toNat) (cs := (endsL f.blocks[k].term).take j) (x := k) (fun c hc => (hrng c (List.mem_of_mem_take hc)).1) (by rw [hrows]; exact hcn)
    simp only [hrows, qz] at this
    omega
   rw [hrows]
   refine zh<|zd<|zi<|zSr<|z2 (zIM j underlying23 sizeOf3 rfl rfl rfl (by rw [qq hj2, hc])) ?_
   refine z2 (zLi isAgg3 rfl)<|z2 (zAi rfl)<|z6<|zRg<|z2 (yq (v := nref _ _) rfl)<|z2 (zMi rfl)<|z2 (yq (v := nref _ _) rfl)<|z2 (zMi rfl)<|z2 (qi (j := c.toNat) underlying118 sizeOf23 rfl rfl (by omega) (by omega))<|q8 (j := c.toNat) (r := rows[c.toNat]) isAgg23 rfl (qq hcn) (fun _ => .head)<|fun i33 => z2 (zMi rfl)<|zw (rows := [[_]]) ps23_1 rfl rfl rfl rfl rfl<|yg (k := 1) underlying23 type3 rfl rfl rfl rfl rfl (fun _ => .head) (by rw [eI.av_len]; rfl) (by decide) rfl (by show (_ + 1) * 8 ≤ _; omega) (by show _ + 1 ≤ _; omega)<|fun i36 => z2 (qi (j := c.toNat) underlying118 sizeOf23 rfl rfl (by omega) (by omega))<|qj (j := c.toNat) (r := rows[c.toNat] ++ [(k : Int)]) sizeOf23 rfl rfl (by omega) .head .head rfl (eI.av_push _ _) (by simp)<|z6<|zRg<|z2 (zAd rfl rfl)<|z2 (zMi rfl)<|z6 ?_
   exact ⟨j + 1, zR7, zR1, ⟨_, (.refl _), by rw [qr hj2, pushes_snoc, hrows, hc, push_row hcn]⟩, hj2, by omega⟩
  ·have hjn : j = (endsL f.blocks[k].term).length := by simp at cj; omega
   refine y4<|zRg<|z2 (zAd rfl rfl)<|z2 (zMi rfl)<|z6 ?_
   exact ⟨k + 1, zR3, zR1, ⟨_, (.refl _), by rw [hjn, qv, ← hEk, predsR_succ (fun c hc => (hrng c (hEk ▸ hc)).1)]⟩, hk2, by omega⟩
 ·have hkn : k = f.blocks.length := by simp at ck; omega
  subst hkn
  refine yc (GStep.nestKnow (s := 3) rfl .head (predsR_len f _))<|y4<|zSr<|z2 (zMf rfl)<|z2 (zAf rfl)<|z6<|zg<|zk (x := .fro _ _) rfl ?_
  rfl
end Go.Proofs.YtiojekbkamegdaaGreatDoor
