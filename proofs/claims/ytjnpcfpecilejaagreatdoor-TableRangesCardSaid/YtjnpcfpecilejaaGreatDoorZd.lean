/- The document's numbers in halves. Plain law. No conditions but int64s. -/
import Derived.Test.YtjnpcfpecilejaaGreatDoorZc
set_option linter.unusedVariables false
set_option linter.unusedSimpArgs false
set_option linter.unusedSectionVars false
namespace Go.Proofs.YtjnpcfpecilejaaGreatDoor
open Go.Proofs.Tryz
open Go.Proofs
variable {E : World}
set_option maxRecDepth 20000
theorem indexFuncJ_spec {p : Int → Bool} {fn : FuncId} {c : List AV} (xs : List Int) (hl : xs.length ≤ 281474976710656) (hp : ∀ x ∈ xs, AFun Tryz.prog E fn ([.int .i64 x] ++ c) (.bool (p x))) :
  AFun Tryz.prog E 148 [.fro 1 (xs.map encI), .fn fn [] c] (.int .i64 (firstI p xs 0)) := by
 refine zy func148 rfl (by decide) rfl<|za<|z7 rfl<|z2 (zd (v := .int _ _) rfl)<|z6<|za<|za<|z7 rfl<|z2 (zc (v := .fro _ _) rfl)<|z2 (yd underlying23 rfl)<|z2 (zc (v := .int _ _) rfl)<|z6<|zq<|yh (γ := Nat) [0, 1, 7] (fun k => [(8, .int .i64 k)]) (fun k => []) (fun k => k ≤ xs.length ∧ (xs.take k).all (fun x => !p x)) (fun k => xs.length - k) 0 ⟨rfl, trivial⟩ ⟨_, (.refl _), rfl⟩ (⟨Nat.zero_le _, rfl⟩) ?_
 rintro k ⟨hk, hall⟩
 refine za<|z7 rfl<|z2 (yj rfl rfl)<|z6<|za<|zt rfl (fun ck => ?_) (fun ck => ?_)
 ·have hk2 : k < xs.length := by omega
  refine zk<|za<|zq<|za<|z7 rfl<|z2 (zc (v := .int _ _) rfl)<|z2 (zd (v := .int _ _) rfl)<|z6<|za<|z7 rfl<|z2 (zc (v := .fn _ _ _) rfl)<|z2 (zc (v := .fro _ _) rfl)<|z2 (zc (v := .int _ _) rfl)<|z2 (y7 underlying23 sizeOf3 rfl rfl rfl (List.getElem?_eq_getElem (by omega))) ?_
  refine z2 (zf (c := .int _ _) isAgg3 rfl)<|AOps.callVP rfl (hp _ (List.getElem_mem hk2)) rfl<|z6<|y8 rfl (fun cp => ?_) (fun cp => ?_)
  ·refine za<|z7 rfl<|z2 (zc (v := .int _ _) rfl)<|z2 (zd (v := .int _ _) rfl)<|z6<|zj<|zx (x := .int _ _) rfl ?_
   rw [firstI_drop p xs k hk hall, List.drop_eq_getElem_cons hk2, firstI, if_pos cp]
  ·refine zk<|z7 rfl<|z2 (yi rfl rfl (by unfold I64; omega))<|z2 (zc (v := .int _ _) rfl)<|z6 ?_
   exact ⟨k + 1, ⟨rfl, rfl, rfl, trivial⟩, ⟨rfl, trivial⟩, ⟨_, (.refl _), rfl⟩, ⟨hk2, by rw [List.take_succ_eq_append_getElem hk2, List.all_append, hall]; simp [cp]⟩, by omega⟩
 ·have hkn : k = xs.length := by omega
  refine yg<|za<|z7 rfl<|z2 (zd (v := .int _ _) rfl)<|z6<|zj<|zx (x := .int _ _) rfl ?_
  rw [firstI_drop p xs k hk hall, hkn, List.drop_length, firstI]
theorem containsFuncJ_spec {p : Int → Bool} {fn : FuncId} {c : List AV} (xs : List Int) (hl : xs.length ≤ 281474976710656) (hp : ∀ x ∈ xs, AFun Tryz.prog E fn ([.int .i64 x] ++ c) (.bool (p x))) :
  AFun Tryz.prog E 98 [.fro 1 (xs.map encI), .fn fn [] c] (.bool (xs.any p)) := by
 refine zy func98 rfl (by decide) rfl<|za<|z7 rfl<|z2 (zd (v := .bool _) rfl)<|z6<|za<|z7 rfl<|z2 (zc (v := .fro _ _) rfl)<|z2 (zc (v := .fn _ _ _) rfl)<|zh (indexFuncJ_spec xs hl hp) rfl<|z2 (qf rfl rfl)<|z2 (zd (v := .bool _) rfl)<|z6<|zj<|zx (x := .bool _) rfl ?_
 rw [firstI_ge]
def kindV (f : PFunc) (v : Int) : Int := ((f.vars[v.toNat]?).map (·.ty)).getD 0
theorem hasV_get {f : PFunc} {v : Int} (h : hasV f v = true) : ∃ x, f.vars[v.toNat]? = some x ∧ v = (v.toNat : Int) ∧ kindV f v = x.ty := by
 unfold hasV at h
 simp only [Bool.and_eq_true, decide_eq_true_eq] at h
 have hl : v.toNat < f.vars.length := by omega
 refine ⟨f.vars[v.toNat], List.getElem?_eq_getElem hl, by omega, ?_⟩
 unfold kindV; rw [List.getElem?_eq_getElem hl]; rfl
theorem kind_spec (f : PFunc) (v : Int) (hv : hasV f v = true) : AFun Tryz.prog E 168 [.agg (encF f), .int .i64 v] (.int .i64 (kindV f v)) := by
 obtain ⟨x, hx, hv2, hk⟩ := hasV_get hv
 rw [hk]
 refine zy func168 rfl (by decide) rfl<|za<|z7 rfl<|yc (cs := _) rfl rfl rfl<|z2 (zd (v := .int _ _) rfl)<|z6<|za<|z7 rfl<|z2 (zg underlying26 rfl sizeOf22 (by decide) rfl rfl)<|z2 (zf (c := .fro _ _) isAgg22 rfl)<|z2 (zc (v := .int _ _) rfl)<|z2 (y7 (j := v.toNat) underlying22 sizeOf56 rfl rfl hv2 hx)<|z2 (zg underlying56 rfl sizeOf54 (by decide) rfl rfl)<|z2 (zf (c := .int _ _) isAgg54 rfl)<|z2 (zd (v := .int _ _) rfl)<|z6<|zj<|zx (x := .int _ _) rfl ?_
 rfl
theorem any_spec (op : Int) : AFun Tryz.prog E 169 [.int .i64 op] (.bool (decide (op = 1))) := by
 refine zy func169 rfl (by decide) rfl<|za<|z7 rfl<|z2 (zd (v := .bool _) rfl)<|z6<|za<|z7 rfl<|z2 (zc (v := .int _ _) rfl)<|z2 (y6 rfl rfl)<|z2 (zd (v := .bool _) rfl)<|z6<|zj<|zx (x := .bool _) rfl ?_
 simp_all
theorem headD_at : ∀ {l : List Int} (h : 0 < l.length), l.headD 0 = l[0]
 | [], h => absurd h (Nat.lt_irrefl 0)
 | _ :: _, _ => rfl
def instT (f : PFunc) (x : PInst) : Bool := if x.op = 1 then decide (kindV f x.dst = kindV f (x.args.headD 0)) else decide (x.args.map (kindV f) = takesL x.op) && (!makesB x.op || decide (kindV f x.dst = makesT x.op))
theorem map_take_succ {f : PFunc} {xs ts : List Int} {k : Nat} (h1 : k < xs.length) (h2 : k < ts.length) (h : (xs.take k).map (kindV f) = ts.take k) (hk : kindV f xs[k] = ts[k]) : (xs.take (k + 1)).map (kindV f) = ts.take (k + 1) := by
 rw [List.take_succ_eq_append_getElem h1, List.take_succ_eq_append_getElem h2, List.map_append, h, List.map_cons, List.map_nil, hk]
theorem map_ne {f : PFunc} {xs ts : List Int} {k : Nat} (h1 : k < xs.length) (h2 : k < ts.length) (hk : ¬ kindV f xs[k] = ts[k]) : ¬ xs.map (kindV f) = ts := by
 intro e
 apply hk
 subst e
 rw [List.getElem_map]
theorem yinst_spec (f : PFunc) (x : PInst) (ha : x.args.all (hasV f) = true) (hl : x.args.length = (takesL x.op).length) (hd : makesB x.op = true → hasV f x.dst = true) :
  AFun Tryz.prog E 116 [.agg (encF f), .agg (encInst x)] (.bool (instT f x)) := by
 have hlen : (takesL x.op).length ≤ 3 := by
  rcases kRow_mem x.op with h | h
  ·unfold takesL; rw [h]; decide
  ·have : ∀ r ∈ kindT, r.2.1.data.toList.length ≤ 3 := by decide
   have := this _ h
   unfold takesL; simpa using this
 refine zy func116 rfl (by decide) rfl<|za<|z7 rfl<|yc (cs := _) rfl rfl rfl<|yc (cs := _) rfl rfl rfl<|z2 (zd (v := .bool _) rfl)<|z6<|za<|za<|z7 rfl<|z2 (zg underlying33 rfl sizeOf31 (by decide) rfl rfl)<|z2 (zf (c := .int _ _) isAgg31 rfl)<|zh (any_spec _) rfl<|z6<|zt rfl (fun c1 => ?_) (fun c1 => ?_)
 ·have e1 : x.op = 1 := by simpa using c1
  have hlz : 0 < x.args.length := by rw [hl, e1]; decide
  have hv0 : hasV f x.args[0] = true := List.all_eq_true.1 ha _ (List.getElem_mem hlz)
  have hvd : hasV f x.dst = true := hd (by rw [e1]; decide)
  refine za<|yb (fun j => false) (by kernel_rfl) rfl (y4 (.rest _))<|ze (i := 0) rfl (by kernel_rfl) (zo isAgg26 sizeOf26 rfl rfl)<|ze (i := 1) rfl (by kernel_rfl) (zg underlying33 rfl sizeOf3 (by decide) rfl rfl)<|ze (i := 2) rfl (by kernel_rfl) (zf (c := .int _ _) isAgg3 rfl)<|ze (i := 4) rfl (by kernel_rfl) (zo isAgg26 sizeOf26 rfl rfl)<|ze (i := 5) rfl (by kernel_rfl) (zg underlying33 rfl sizeOf23 (by decide) rfl rfl)<|ze (i := 6) rfl (by kernel_rfl) (zf (c := .fro _ _) isAgg23 rfl)<|ze (i := 7) rfl (by kernel_rfl) (y7 (j := 0) underlying23 sizeOf3 rfl rfl rfl (List.getElem?_eq_getElem hlz)) ?_
  refine ze (i := 8) rfl (by kernel_rfl) (zf (c := .int _ _) isAgg3 rfl)<|zp (i := 3) rfl (by kernel_rfl)<|zh (kind_spec _ _ (by assumption)) rfl<|z6<|zp (i := 9) rfl (by kernel_rfl)<|zh (kind_spec _ _ (by assumption)) rfl<|z6<|ze (i := 10) rfl (by kernel_rfl) (y6 rfl rfl)<|ze (i := 11) rfl (by kernel_rfl) (zd (v := .bool _) rfl)<|ya (by kernel_rfl)<|zj<|zx (x := .bool _) rfl ?_
  exact jb (by unfold instT; rw [if_pos e1, headD_at hlz])
 ·have e1 : ¬ x.op = 1 := by simpa using c1
  refine zk<|za<|za<|z7 rfl<|z2 (zg underlying33 rfl sizeOf31 (by decide) rfl rfl)<|z2 (zf (c := .int _ _) isAgg31 rfl)<|zh (takes_spec _) rfl<|z2 (yd underlying217 rfl)<|z2 (zc (v := .int _ _) rfl)<|z6<|zq<|yh (γ := Nat) [2, 3, 25, 26] (fun k => [(27, .int .i64 k)]) (fun k => []) (fun k => k ≤ (takesL x.op).length ∧ (x.args.take k).map (kindV f) = (takesL x.op).take k) (fun k => (takesL x.op).length - k) 0 ⟨rfl, trivial⟩ ⟨_, (.refl _), rfl⟩ (⟨Nat.zero_le _, rfl⟩) ?_
  rintro k ⟨hk, hall⟩
  refine za<|z7 rfl<|z2 (yj rfl rfl)<|z6<|za<|zt rfl (fun ck => ?_) (fun ck => ?_)
  ·have hk2 : k < (takesL x.op).length := by simp at ck; omega
   have hk3 : k < x.args.length := by omega
   have hvk : hasV f x.args[k] = true := List.all_eq_true.1 ha _ (List.getElem_mem hk3)
   refine zk<|za<|zq<|za<|z7 rfl<|z2 (zc (v := .int _ _) rfl)<|z2 (y7 (j := k) underlying217 sizeOf54 rfl rfl rfl (List.getElem?_eq_getElem hk2)) ?_
   refine z2 (zf (c := .int _ _) isAgg54 rfl)<|z2 (zd (v := .int _ _) rfl)<|z2 (zd (v := .int _ _) rfl)<|z6<|za<|yb (fun j => false) (by kernel_rfl) rfl (y4 (.rest _))<|ze (i := 0) rfl (by kernel_rfl) (zo isAgg26 sizeOf26 rfl rfl)<|ze (i := 1) rfl (by kernel_rfl) (zg underlying33 rfl sizeOf23 (by decide) rfl rfl)<|ze (i := 2) rfl (by kernel_rfl) (zf (c := .fro _ _) isAgg23 rfl)<|ze (i := 3) rfl (by kernel_rfl) (zc (v := .int _ _) rfl)<|ze (i := 4) rfl (by kernel_rfl) (y7 (j := k) underlying23 sizeOf3 rfl rfl rfl (List.getElem?_eq_getElem hk3)) ?_
   refine ze (i := 5) rfl (by kernel_rfl) (zf (c := .int _ _) isAgg3 rfl)<|ze (i := 7) rfl (by kernel_rfl) (zc (v := .int _ _) rfl)<|zp (i := 6) rfl (by kernel_rfl)<|zh (kind_spec _ _ (by assumption)) rfl<|z6<|ze (i := 8) rfl (by kernel_rfl) (yx rfl rfl)<|ya (by kernel_rfl)<|y8 rfl (fun cn => ?_) (fun cn => ?_)
   ·refine za<|z7 rfl<|z2 (zd (v := .bool _) rfl)<|z6<|zj<|zx (x := .bool _) rfl ?_
    exact jb (by unfold instT; rw [if_neg e1, decide_eq_false (map_ne hk3 hk2 (by simpa using cn))]; rfl)
   ·refine zk<|z7 rfl<|z2 (yi rfl rfl (by unfold I64; omega))<|z2 (zc (v := .int _ _) rfl)<|z6 ?_
    exact ⟨k + 1, ⟨rfl, rfl, rfl, rfl, trivial⟩, ⟨rfl, trivial⟩, ⟨_, (.refl _), rfl⟩, ⟨hk2, map_take_succ hk3 hk2 hall (by simpa using cn)⟩, by omega⟩
  ·have hkn : k = (takesL x.op).length := by simp at ck; omega
   subst hkn
   rw [List.take_length, ← hl, List.take_length] at hall
   refine yg<|za<|z7 rfl<|z2 (zg underlying33 rfl sizeOf31 (by decide) rfl rfl)<|z2 (zf (c := .int _ _) isAgg31 rfl)<|zh (makes_spec _) rfl<|z2 (zc (v := .tup _) rfl)<|z2 (yr (v := .int _ _) rfl rfl)<|z2 (yr (v := .bool _) rfl rfl)<|z2 (zd (v := .int _ _) rfl)<|z2 (zd (v := .bool _) rfl)<|z6<|za<|z7 rfl<|z2 (zc (v := .bool _) rfl)<|z2 (yt rfl)<|z2 (zc (v := .bool _) rfl)<|zz (s := 50) rfl (fun c1 => ?_) (fun c1 => ?_)
   ·refine z8 rfl rfl c1<|z8 rfl rfl c1<|z8 rfl rfl c1<|z8 rfl rfl c1<|z8 rfl rfl c1<|z8 rfl rfl c1<|z2 (zu (v := .bool _) rfl c1 rfl)<|z2 (zd (v := .bool _) rfl)<|z6<|zj<|zx (x := .bool _) rfl ?_
    exact jb (by unfold instT; rw [if_neg e1, decide_eq_true hall]; simp_all)
   ·refine zb rfl rfl c1<|z2 (zo isAgg26 sizeOf26 rfl rfl)<|zb rfl rfl c1<|z2 (zg underlying33 rfl sizeOf3 (by decide) rfl rfl)<|zb rfl rfl c1<|z2 (zf (c := .int _ _) isAgg3 rfl)<|zb rfl rfl c1<|zh (kind_spec f x.dst (hd (by simp_all))) rfl<|zb rfl rfl c1<|z2 (zc (v := .int _ _) rfl)<|zb rfl rfl c1<|z2 (y6 rfl rfl)<|z2 (zw (v := .bool _) rfl c1 rfl)<|z2 (zd (v := .bool _) rfl)<|z6<|zj<|zx (x := .bool _) rfl ?_
    exact jb (by unfold instT; rw [if_neg e1, decide_eq_true hall]; simp_all)
def phiT (f : PFunc) (p : PPhi) : Bool := !(p.args.any fun v => !decide (kindV f v = kindV f p.dst))
theorem yphi1_spec (f : PFunc) (p : PPhi) (v : Int) (hv : hasV f v = true) (hd : hasV f p.dst = true) : AFun Tryz.prog E 167 ([.int .i64 v] ++ [.pf (encF f), .pf (encPhi p)]) (.bool (!decide (kindV f v = kindV f p.dst))) := by
 refine zy func167 rfl (by decide) rfl<|za<|z7 rfl<|z2 (zd (v := .bool _) rfl)<|z6<|za<|yb (fun j => false) (by kernel_rfl) rfl (y4 (.rest _))<|ze (i := 0) rfl (by kernel_rfl) (zo isAgg26 sizeOf26 rfl rfl)<|ze (i := 1) rfl (by kernel_rfl) (zc (v := .int _ _) rfl)<|ze (i := 3) rfl (by kernel_rfl) (zo isAgg26 sizeOf26 rfl rfl)<|ze (i := 4) rfl (by kernel_rfl) (zg underlying95 rfl sizeOf3 (by decide) rfl rfl)<|ze (i := 5) rfl (by kernel_rfl) (zf (c := .int _ _) isAgg3 rfl)<|zp (i := 2) rfl (by kernel_rfl)<|zh (kind_spec _ _ (by assumption)) rfl<|z6<|zp (i := 6) rfl (by kernel_rfl)<|zh (kind_spec _ _ (by assumption)) rfl<|z6<|ze (i := 7) rfl (by kernel_rfl) (yx rfl rfl)<|ze (i := 8) rfl (by kernel_rfl) (zd (v := .bool _) rfl)<|ya (by kernel_rfl)<|zj<|zx (x := .bool _) rfl ?_
 simp_all
theorem yphi_spec (f : PFunc) (p : PPhi) (hp : okPhi p) (ha : p.args.all (hasV f) = true) (hd : hasV f p.dst = true) : AFun Tryz.prog E 115 [.agg (encF f), .agg (encPhi p)] (.bool (phiT f p)) := by
 have hl1 := hp.1.lt
 refine zy func115 rfl (by decide) rfl<|za<|z7 rfl<|yc (cs := _) rfl rfl rfl<|yc (cs := _) rfl rfl rfl<|z2 (zd (v := .bool _) rfl)<|z6<|za<|z7 rfl<|z2 (zg underlying95 rfl sizeOf23 (by decide) rfl rfl)<|z2 (zf (c := .fro _ _) isAgg23 rfl)<|z2 (Gv.func rfl rfl)<|zh (containsFuncJ_spec p.args (by omega) (fun v hv => yphi1_spec f p v (List.all_eq_true.1 ha v hv) hd)) rfl<|z2 (yt rfl)<|z2 (zd (v := .bool _) rfl)<|z6<|zj<|zx (x := .bool _) rfl ?_
 rfl
def termT (f : PFunc) (t : PTerm) : Bool := if t.kind = 0 then !decide (t.to0 = 0) else if t.kind = 1 then decide (kindV f t.var = 1) && !decide (t.to0 = 0) && !decide (t.to1 = 0) else decide (kindV f t.var = 0)
theorem yterm_spec (f : PFunc) (t : PTerm) (h : ¬ t.kind = 0 → hasV f t.var = true) : AFun Tryz.prog E 117 [.agg (encF f), .agg (encTerm t)] (.bool (termT f t)) := by
 refine zy func117 rfl (by decide) rfl<|za<|z7 rfl<|yc (cs := _) rfl rfl rfl<|yc (cs := _) rfl rfl rfl<|z2 (zd (v := .bool _) rfl)<|z6<|za<|za<|z7 rfl<|z2 (zg underlying64 rfl sizeOf61 (by decide) rfl rfl)<|z2 (zf (c := .int _ _) isAgg61 rfl)<|z6<|zq<|za<|z7 rfl<|z2 (y6 rfl rfl)<|z2 (zd (v := .bool _) rfl)<|z6<|y8 rfl (fun c2 => ?_) (fun c2 => ?_)
 ·refine za<|z7 rfl<|z2 (zg underlying64 rfl sizeOf62 (by decide) rfl rfl)<|z2 (qc (j := 0) underlying62 sizeOf3 rfl rfl rfl (by decide) rfl)<|z2 (zf (c := .int _ _) isAgg3 rfl)<|z2 (yx rfl rfl)<|z2 (zd (v := .bool _) rfl)<|z6<|zj<|zx (x := .bool _) rfl ?_
  exact jb (by unfold termT; simp_all)
 ·refine za<|z7 rfl<|z2 (y6 rfl rfl)<|z2 (zd (v := .bool _) rfl)<|z6<|y8 rfl (fun c3 => ?_) (fun c3 => ?_)
  ·refine za<|z7 rfl<|z2 (zo isAgg26 sizeOf26 rfl rfl)<|z2 (zg underlying64 rfl sizeOf3 (by decide) rfl rfl)<|z2 (zf (c := .int _ _) isAgg3 rfl)<|zh (kind_spec f t.var (h (by simp_all))) rfl<|z2 (y6 rfl rfl)<|z2 (zc (v := .bool _) rfl)<|zz (s := 20) rfl (fun c4 => ?_) (fun c4 => ?_)
   ·refine zb rfl rfl c4<|z2 (zg underlying64 rfl sizeOf62 (by decide) rfl rfl)<|zb rfl rfl c4<|z2 (qc (j := 0) underlying62 sizeOf3 rfl rfl rfl (by decide) rfl)<|zb rfl rfl c4<|z2 (zf (c := .int _ _) isAgg3 rfl)<|zb rfl rfl c4<|z2 (yx rfl rfl)<|z2 (zu (v := .bool _) rfl c4 rfl)<|z2 (zc (v := .bool _) rfl)<|zz (s := 26) rfl (fun c5 => ?_) (fun c5 => ?_)
    ·refine zb rfl rfl c5<|z2 (zg underlying64 rfl sizeOf62 (by decide) rfl rfl)<|zb rfl rfl c5<|z2 (qc (j := 1) underlying62 sizeOf3 rfl rfl rfl (by decide) rfl)<|zb rfl rfl c5<|z2 (zf (c := .int _ _) isAgg3 rfl)<|zb rfl rfl c5<|z2 (yx rfl rfl)<|z2 (zu (v := .bool _) rfl c5 rfl)<|z2 (zd (v := .bool _) rfl)<|z6<|zj<|zx (x := .bool _) rfl ?_
     exact jb (by unfold termT; simp_all)
    ·refine z8 rfl rfl c5<|z8 rfl rfl c5<|z8 rfl rfl c5<|z8 rfl rfl c5<|z2 (zw (v := .bool _) rfl c5 rfl)<|z2 (zd (v := .bool _) rfl)<|z6<|zj<|zx (x := .bool _) rfl ?_
     exact jb (by unfold termT; simp_all)
   ·refine z8 rfl rfl c4<|z8 rfl rfl c4<|z8 rfl rfl c4<|z8 rfl rfl c4<|z2 (zw (v := .bool _) rfl c4 rfl)<|z2 (zc (v := .bool _) rfl)<|z8 rfl rfl rfl<|z8 rfl rfl rfl<|z8 rfl rfl rfl<|z8 rfl rfl rfl<|z2 (zw (v := .bool _) rfl rfl rfl)<|z2 (zd (v := .bool _) rfl)<|z6<|zj<|zx (x := .bool _) rfl ?_
    exact jb (by unfold termT; simp_all)
  ·refine zk<|za<|z7 rfl<|z2 (zo isAgg26 sizeOf26 rfl rfl)<|z2 (zg underlying64 rfl sizeOf3 (by decide) rfl rfl)<|z2 (zf (c := .int _ _) isAgg3 rfl)<|zh (kind_spec f t.var (h (by simp_all))) rfl<|z2 (y6 rfl rfl)<|z2 (zd (v := .bool _) rfl)<|z6<|zj<|zx (x := .bool _) rfl ?_
   exact jb (by unfold termT; simp_all)
end Go.Proofs.YtjnpcfpecilejaaGreatDoor
namespace Go.Proofs.YtjnpcfpecilejaaGreatDoor
open Go.Proofs.Tryz
abbrev Rng := Int × Int
def m64 : Int := -9223372036854775808
def M64 : Int := 9223372036854775807
def is64 (x : Int) : Prop := -9223372036854775808 ≤ x ∧ x ≤ 9223372036854775807
instance (x : Int) : Decidable (is64 x) := by unfold is64; infer_instance
def ok64 (r : Rng) : Prop := is64 r.1 ∧ is64 r.2
def noR : Rng := (1, 0)
def rMade (lo hi : Int) : Rng := if hi < lo then noR else (lo, hi)
def imin (a b : Int) : Int := if b < a then b else a
def imax (a b : Int) : Int := if a < b then b else a
def rJoin (a b : Rng) : Rng := if a.2 < a.1 then rMade b.1 b.2 else if b.2 < b.1 then a else (imin a.1 b.1, imax a.2 b.2)
def rMeet (a b : Rng) : Rng := rMade (imax a.1 b.1) (imin a.2 b.2)
def rType (t : Int) : Rng := if t = 0 then (m64, M64) else if t = 1 then (0, 1) else if t = 2 then (0, 64) else noR
theorem rMade_ok {lo hi : Int} (h1 : is64 lo) (h2 : is64 hi) : ok64 (rMade lo hi) := by
 unfold rMade; split
 ·exact ⟨by decide, by decide⟩
 ·exact ⟨h1, h2⟩
theorem imin_ok {a b : Int} (h1 : is64 a) (h2 : is64 b) : is64 (imin a b) := by unfold imin; split <;> assumption
theorem imax_ok {a b : Int} (h1 : is64 a) (h2 : is64 b) : is64 (imax a b) := by unfold imax; split <;> assumption
theorem rMeet_ok {a b : Rng} (h1 : ok64 a) (h2 : ok64 b) : ok64 (rMeet a b) := rMade_ok (imax_ok h1.1 h2.1) (imin_ok h1.2 h2.2)
theorem rType_ok (t : Int) : ok64 (rType t) := by
 unfold rType; split
 ·exact ⟨by decide, by decide⟩
 ·split
  ·exact ⟨by decide, by decide⟩
  ·split
   ·exact ⟨by decide, by decide⟩
   ·exact ⟨by decide, by decide⟩
def op3 (k : Nat) (x y : Int) : Int := if k = 0 then x + y else if k = 1 then x - y else x * y
def fit3 (k : Nat) (x y : Int) : Prop := is64 (op3 k x y)
instance (k : Nat) (x y : Int) : Decidable (fit3 k x y) := by unfold fit3; infer_instance
def near3 (k : Nat) (x y : Int) : Int := if (if k = 2 then decide (x < 0) != decide (y < 0) else decide (x < 0)) then m64 else M64
def one3 (k : Nat) (x y : Int) : Int := if fit3 k x y then op3 k x y else near3 k x y
def rOf (n : Int) : Rng := (n, n)
def cornR (k : Nat) (a b : Rng) : Rng := rJoin (rJoin (rJoin (rJoin noR (rOf (one3 k a.1 b.1))) (rOf (one3 k a.1 b.2))) (rOf (one3 k a.2 b.1))) (rOf (one3 k a.2 b.2))
def cornF (k : Nat) (a b : Rng) : Prop := fit3 k a.1 b.1 ∧ fit3 k a.1 b.2 ∧ fit3 k a.2 b.1 ∧ fit3 k a.2 b.2
instance (k : Nat) (a b : Rng) : Decidable (cornF k a b) := by unfold cornF; infer_instance
def hullQ (a b : Int) : Rng := if b < a then (b, a) else (a, b)
def wideQ (a b : Rng) : Rng := (if b.1 < a.1 then b.1 else a.1, if a.2 < b.2 then b.2 else a.2)
def clipQ (k : Nat) (a b : Rng) : Rng := wideQ (hullQ (one3 k a.1 b.1) (one3 k a.1 b.2)) (hullQ (one3 k a.2 b.1) (one3 k a.2 b.2))
theorem join_first (p : Int) : rJoin noR (rOf p) = (p, p) := by
 unfold rJoin rOf noR rMade
 rw [if_pos (by decide)]
 rw [if_neg (by dsimp only; omega)]
theorem join_next {lo hi : Int} (h : lo ≤ hi) (q : Int) : rJoin (lo, hi) (rOf q) = (imin lo q, imax hi q) ∧ imin lo q ≤ imax hi q := by
 unfold rJoin rOf
 rw [if_neg (by dsimp only; omega), if_neg (by dsimp only; omega)]
 refine ⟨rfl, ?_⟩
 unfold imin imax; split <;> split <;> omega
theorem join4 (p q r s : Int) : rJoin (rJoin (rJoin (rJoin noR (rOf p)) (rOf q)) (rOf r)) (rOf s) = wideQ (hullQ p q) (hullQ r s) := by
 obtain ⟨e2, h2⟩ := join_next (Int.le_refl p) q
 obtain ⟨e3, h3⟩ := join_next h2 r
 obtain ⟨e4, _⟩ := join_next h3 s
 rw [join_first, e2, e3, e4]
 unfold hullQ wideQ imin imax
 rw [Prod.ext_iff]
 by_cases c1 : q < p <;> by_cases c2 : s < r <;> simp only [c1, c2, if_true, if_false] <;> constructor <;> (repeat' split) <;> omega
theorem corn_eq (k : Nat) (a b : Rng) : cornR k a b = clipQ k a b := join4 _ _ _ _
def qJoin (a b : Rng) : Rng :=
 let a1 := if a.2 < a.1 then b else a
 let b1 := if b.2 < b.1 then a1 else b
 let lo := if b1.1 < a1.1 then b1.1 else a1.1
 let hi := if a1.2 < b1.2 then b1.2 else a1.2
 if hi < lo then noR else (lo, hi)
theorem qJoin_eq (a b : Rng) : qJoin a b = rJoin a b := by
 obtain ⟨a1, a2⟩ := a
 obtain ⟨b1, b2⟩ := b
 unfold qJoin rJoin rMade imin imax noR
 simp only [Prod.ext_iff]
 repeat' split
 all_goals (constructor <;> dsimp only at * <;> omega)
theorem mul_fit {x y : Nat} (hy : 0 < y) (l : Nat) : x ≤ l / y ↔ x * y ≤ l := Nat.le_div_iff_mul_le hy
theorem natAbs_mul_le (a b : Int) (l : Nat) : a.natAbs ≤ l / b.natAbs ↔ (b = 0 ∧ a = 0) ∨ (b ≠ 0 ∧ (a * b).natAbs ≤ l) := by
 by_cases hb : b = 0
 ·subst hb; simp
 ·rw [mul_fit (by omega), Int.natAbs_mul]; simp [hb]
theorem sign_mul {a b : Int} (ha : a ≠ 0) (hb : b ≠ 0) : (0 < a * b ↔ ((a < 0) ↔ (b < 0))) ∧ a * b ≠ 0 := by
 refine ⟨?_, Int.mul_ne_zero ha hb⟩
 rcases Int.lt_or_gt_of_ne ha with h1 | h1 <;> rcases Int.lt_or_gt_of_ne hb with h2 | h2
 ·have := Int.mul_pos_of_neg_of_neg h1 h2; simp [this, h1, h2]
 ·have := Int.mul_neg_of_neg_of_pos h1 h2
  constructor
  ·intro h; omega
  ·intro h; have := h.1 h1; omega
 ·have := Int.mul_neg_of_pos_of_neg h1 h2
  constructor
  ·intro h; omega
  ·intro h; have := h.2 h2; omega
 ·have := Int.mul_pos h1 h2
  constructor
  ·intro _; constructor <;> intro h <;> omega
  ·intro _; exact this
theorem fitMul (a b : Int) (ha : a ≠ 0) (hb : b ≠ 0) : (a.natAbs ≤ (if decide (a < 0) = decide (b < 0) then 9223372036854775807 else 9223372036854775808) / b.natAbs) ↔ fit3 2 a b := by
 have hs := sign_mul ha hb
 rw [natAbs_mul_le]
 unfold fit3 is64
 have e : op3 2 a b = a * b := rfl
 rw [e]
 simp only [hb, false_and, false_or, ne_eq, not_false_eq_true, true_and]
 by_cases h : decide (a < 0) = decide (b < 0)
 ·rw [if_pos h]
  have : (a < 0) ↔ (b < 0) := by simpa using h
  have h1 := hs.1.2 this
  omega
 ·rw [if_neg h]
  have : ¬ ((a < 0) ↔ (b < 0)) := by simpa using h
  have h1 : ¬ 0 < a * b := fun h2 => this (hs.1.1 h2)
  omega
end Go.Proofs.YtjnpcfpecilejaaGreatDoor
namespace Go.Proofs.YtjnpcfpecilejaaGreatDoor
open Go.Proofs.Tryz
def rSub (r s : Rng) : Prop := r.2 < r.1 ∨ (s.1 ≤ r.1 ∧ r.2 ≤ s.2)
theorem rSub.refl (r : Rng) : rSub r r := .inr ⟨Int.le_refl _, Int.le_refl _⟩
theorem rSub.trans {r s t : Rng} (h : rSub r s) (k : rSub s t) : rSub r t := by
 rcases h with h | h
 ·exact .inl h
 ·rcases k with k | k
  ·exact .inl (by omega)
  ·exact .inr (by omega)
end Go.Proofs.YtjnpcfpecilejaaGreatDoor
namespace Go.Proofs.YtjnpcfpecilejaaGreatDoor
open Go.Proofs.Tryz
def quoQ (a b : Rng) : Rng := wideQ (hullQ (a.1.tdiv b.1) (a.1.tdiv b.2)) (hullQ (a.2.tdiv b.1) (a.2.tdiv b.2))
def divQ (a b : Rng) : Rng :=
 if a.1 = m64 ∧ b.1 ≤ -1 ∧ -1 ≤ b.2 then (m64, M64) else
 if b.1 = 0 ∧ b.2 = 0 then noR else
 if 0 ≤ b.1 then quoQ a (if b.1 = 0 then 1 else b.1, b.2) else
 if b.2 ≤ 0 then quoQ a (b.1, if b.2 = 0 then -1 else b.2) else wideQ (quoQ a (b.1, -1)) (quoQ a (1, b.2))
end Go.Proofs.YtjnpcfpecilejaaGreatDoor
namespace Go.Proofs.YtjnpcfpecilejaaGreatDoor
open Go.Proofs.Tryz
def far (b : Rng) : Int := imax (if b.1 < 0 then -b.1 else b.1) (if b.2 < 0 then -b.2 else b.2) - 1
def remQ (a b : Rng) : Rng := if b.1 = 0 ∧ b.2 = 0 then noR else (if a.1 < 0 then imax (-(far b)) a.1 else 0, if 0 < a.2 then imin (far b) a.2 else 0)
def truQ (no yes : Bool) : Rng := (if no then 0 else 1, if yes then 1 else 0)
def eqQ (a b : Rng) : Rng := truQ (!(decide (a.1 = a.2) && decide (a = b))) (!decide ((rMeet a b).2 < (rMeet a b).1))
def ltQ (a b : Rng) : Rng := truQ (decide (b.1 ≤ a.2)) (decide (a.1 < b.2))
def leQ (a b : Rng) : Rng := truQ (decide (b.1 < a.2)) (decide (a.1 ≤ b.2))
def notQ (a : Rng) : Rng := truQ (decide (a.2 = 1)) (decide (a.1 = 0))
def andQ (a b : Rng) : Rng := truQ (decide (a.1 = 0) || decide (b.1 = 0)) (decide (a.2 = 1) && decide (b.2 = 1))
theorem meet_ne {a b : Rng} : (rMeet a b).2 < (rMeet a b).1 ↔ imin a.2 b.2 < imax a.1 b.1 := by
 unfold rMeet rMade
 split
 ·rename_i h; exact ⟨fun _ => h, fun _ => by decide⟩
 ·exact Iff.rfl
def cutQ (num : Int) (a b : Rng) : Rng :=
 if num = 0 then (if b.2 = m64 then noR else rMeet a (m64, b.2 - 1)) else
 if num = 1 then rMeet a (m64, b.2) else
 if num = 2 then rMeet a b else
 if num = 3 then rMeet a (b.1, M64) else
 if num = 4 then (if b.1 = M64 then noR else rMeet a (b.1 + 1, M64)) else a
end Go.Proofs.YtjnpcfpecilejaaGreatDoor
namespace Go.Proofs.YtjnpcfpecilejaaGreatDoor
open Go.Proofs.Tryz
def allR : Rng := (m64, M64)
def sumQ (k : Nat) (a b : Rng) (chk : Bool) : Rng := if chk = true ∨ cornF k a b then clipQ k a b else allR
def ra (rs : List Rng) (i : Nat) : Rng := (rs[i]?).getD (0, 0)
def instQ (op num : Int) (rs : List Rng) (chk : Bool) : Rng :=
 if op = 0 then rOf num else if op = 1 ∨ op = 12 then ra rs 0 else
 if op = 2 then sumQ 0 (ra rs 0) (ra rs 1) chk else if op = 3 then sumQ 1 (ra rs 0) (ra rs 1) chk else if op = 4 then sumQ 2 (ra rs 0) (ra rs 1) chk else
 if op = 5 then divQ (ra rs 0) (ra rs 1) else if op = 6 then remQ (ra rs 0) (ra rs 1) else
 if op = 7 then eqQ (ra rs 0) (ra rs 1) else if op = 8 then ltQ (ra rs 0) (ra rs 1) else if op = 9 then leQ (ra rs 0) (ra rs 1) else
 if op = 10 then notQ (ra rs 0) else if op = 11 then andQ (ra rs 0) (ra rs 1) else
 if op = 15 then rMeet (ra rs 0) (0, 64) else if op = 16 then rOf 0 else
 if op = 25 then cutQ num (ra rs 0) (ra rs 1) else if op = 26 then cutQ 0 (rMeet (ra rs 0) (0, M64)) (ra rs 1) else allR
structure Less (a a' : Rng) : Prop where
 ok : ok64 a
 ok' : ok64 a'
 ne : a.1 ≤ a.2
 sub : a'.1 ≤ a.1 ∧ a.2 ≤ a'.2
theorem Less.zero : Less (0, 0) (0, 0) := ⟨⟨by decide, by decide⟩, ⟨by decide, by decide⟩, by decide, by decide, by decide⟩
end Go.Proofs.YtjnpcfpecilejaaGreatDoor
namespace Go.Proofs.YtjnpcfpecilejaaGreatDoor
open Go.Proofs.Tryz
def hAdd (h : Rng × Bool) (n : Int) (fits : Bool) (e : Int) : Rng × Bool := (rJoin h.1 (rOf (if fits then n else e)), h.2 || !fits)
def h4 (h : Rng × Bool) (a b : Rng) (n : Int → Int → Int) (fit : Int → Int → Bool) (e : Int → Int → Int) : Rng × Bool :=
 hAdd (hAdd (hAdd (hAdd h (n a.1 b.1) (fit a.1 b.1) (e a.1 b.1)) (n a.1 b.2) (fit a.1 b.2) (e a.1 b.2)) (n a.2 b.1) (fit a.2 b.1) (e a.2 b.1)) (n a.2 b.2) (fit a.2 b.2) (e a.2 b.2)
instance (k : Nat) (x y : Int) : Decidable (fit3 k x y) := by unfold fit3 is64; infer_instance
instance (k : Nat) (a b : Rng) : Decidable (cornF k a b) := by unfold cornF; infer_instance
def cornP (k : Nat) (a b : Rng) : Rng × Bool := h4 (noR, false) a b (op3 k) (fun x y => decide (fit3 k x y)) (near3 k)
theorem cornP_eq (k : Nat) (a b : Rng) : cornP k a b = (clipQ k a b, !decide (cornF k a b)) := by
 rw [← corn_eq]
 unfold cornP h4 hAdd cornR cornF one3
 simp only [Bool.false_or, decide_eq_true_eq]
 refine Prod.ext rfl ?_
 dsimp only
 by_cases h1 : fit3 k a.1 b.1 <;> by_cases h2 : fit3 k a.1 b.2 <;> by_cases h3 : fit3 k a.2 b.1 <;> by_cases h4 : fit3 k a.2 b.2 <;> simp [h1, h2, h3, h4]
def sumP (k : Nat) (a b : Rng) (chk : Bool) : Rng := if chk then (cornP k a b).1 else if (cornP k a b).2 then allR else (cornP k a b).1
theorem sumP_eq (k : Nat) (a b : Rng) (chk : Bool) : sumP k a b chk = sumQ k a b chk := by
 unfold sumP sumQ
 rw [cornP_eq]
 cases chk
 ·by_cases h : cornF k a b <;> simp [h]
 ·simp
def fitD (x y : Int) : Bool := decide (x ≠ m64) || decide (y ≠ -1)
def quoH (a p : Rng) (h : Rng × Bool) : Rng × Bool := if p.2 < p.1 then h else h4 h a p Int.tdiv fitD (fun _ _ => M64)
def quotP (a b : Rng) : Rng :=
 let h := quoH a (rMeet b (1, M64)) (quoH a (rMeet b (m64, -1)) (noR, false))
 if h.2 then allR else h.1
theorem join4_next {lo hi : Int} (h : lo ≤ hi) (p q r s : Int) : rJoin (rJoin (rJoin (rJoin (lo, hi) (rOf p)) (rOf q)) (rOf r)) (rOf s) = wideQ (lo, hi) (wideQ (hullQ p q) (hullQ r s)) := by
 obtain ⟨e1, g1⟩ := join_next h p
 obtain ⟨e2, g2⟩ := join_next g1 q
 obtain ⟨e3, g3⟩ := join_next g2 r
 obtain ⟨e4, _⟩ := join_next g3 s
 rw [e1, e2, e3, e4]
 unfold wideQ hullQ imin imax
 refine Prod.ext ?_ ?_ <;> dsimp only <;> (repeat' split) <;> (try dsimp only) <;> (repeat' split) <;> omega
theorem h4_fst {h : Rng × Bool} {a p : Rng} (hf : fitD a.1 p.1 = true ∧ fitD a.1 p.2 = true ∧ fitD a.2 p.1 = true ∧ fitD a.2 p.2 = true) :
  h4 h a p Int.tdiv fitD (fun _ _ => M64) = (rJoin (rJoin (rJoin (rJoin h.1 (rOf (a.1.tdiv p.1))) (rOf (a.1.tdiv p.2))) (rOf (a.2.tdiv p.1))) (rOf (a.2.tdiv p.2)), h.2) := by
 unfold h4 hAdd
 simp [hf.1, hf.2.1, hf.2.2.1, hf.2.2.2]
theorem h4_snd {h : Rng × Bool} {a p : Rng} (n : Int → Int → Int) (fit : Int → Int → Bool) (e : Int → Int → Int) :
  (h4 h a p n fit e).2 = (h.2 || !(fit a.1 p.1 && fit a.1 p.2 && fit a.2 p.1 && fit a.2 p.2)) := by
 unfold h4 hAdd
 cases fit a.1 p.1 <;> cases fit a.1 p.2 <;> cases fit a.2 p.1 <;> cases fit a.2 p.2 <;> simp
theorem quo_ord (a p : Rng) : (quoQ a p).1 ≤ (quoQ a p).2 := by
 unfold quoQ wideQ hullQ
 (repeat' split) <;> (try dsimp only at *) <;> omega
theorem quotP_eq {a b : Rng} (ha : ok64 a) (hb : ok64 b) (na : a.1 ≤ a.2) (nb : b.1 ≤ b.2) : quotP a b = divQ a b := by
 obtain ⟨a1, a2⟩ := a
 obtain ⟨b1, b2⟩ := b
 have ha1 := ha.1; have ha2 := ha.2; have hb1 := hb.1; have hb2 := hb.2
 unfold is64 at ha1 ha2 hb1 hb2
 dsimp only at ha1 ha2 hb1 hb2 na nb
 have hM : M64 = 9223372036854775807 := rfl
 have hm : m64 = -9223372036854775808 := rfl
 have hneg : rMeet (b1, b2) (m64, -1) = if b1 < 0 then (b1, if -1 < b2 then -1 else b2) else noR := by
  unfold rMeet rMade imin imax
  dsimp only
  rw [hm]
  (repeat' split) <;> first | rfl | omega | (refine Prod.ext ?_ ?_ <;> dsimp only <;> omega)
 have hpos : rMeet (b1, b2) (1, M64) = if 0 < b2 then (if b1 < 1 then 1 else b1, b2) else noR := by
  unfold rMeet rMade imin imax
  dsimp only
  rw [hM]
  (repeat' split) <;> first | rfl | omega | (refine Prod.ext ?_ ?_ <;> dsimp only <;> omega)
 have hno : (noR).2 < (noR).1 := by decide
 unfold quotP
 rw [hneg, hpos]
 have fitPos : ∀ x y : Int, 0 < y → fitD x y = true := fun x y h => by unfold fitD; simp; right; omega
 have hposF : 0 < b2 → (fitD a1 (if b1 < 1 then 1 else b1) = true ∧ fitD a1 b2 = true ∧ fitD a2 (if b1 < 1 then 1 else b1) = true ∧ fitD a2 b2 = true) := fun h =>
  ⟨fitPos _ _ (by split <;> omega), fitPos _ _ h, fitPos _ _ (by split <;> omega), fitPos _ _ h⟩
 by_cases cN : b1 < 0
 ·rw [if_pos cN]
  have hnp : ¬ ((b1, if -1 < b2 then -1 else b2) : Rng).2 < ((b1, if -1 < b2 then -1 else b2) : Rng).1 := by dsimp only; split <;> omega
  rw [quoH.eq_1 _ (b1, _), if_neg hnp]
  by_cases cW : a1 = m64 ∧ -1 ≤ b2
  ·
   have hw : (h4 (noR, false) (a1, a2) (b1, if -1 < b2 then -1 else b2) Int.tdiv fitD (fun _ _ => M64)).2 = true := by
    rw [h4_snd]
    have : fitD a1 (if -1 < b2 then -1 else b2) = false := by unfold fitD; simp; exact ⟨cW.1, by omega⟩
    dsimp only
    rw [this]; simp
   have hw2 : (quoH (a1, a2) (if 0 < b2 then (if b1 < 1 then 1 else b1, b2) else noR) (h4 (noR, false) (a1, a2) (b1, if -1 < b2 then -1 else b2) Int.tdiv fitD (fun _ _ => M64))).2 = true := by
    generalize (if 0 < b2 then (if b1 < 1 then 1 else b1, b2) else noR : Rng) = q
    generalize h4 (noR, false) (a1, a2) (b1, if -1 < b2 then -1 else b2) Int.tdiv fitD (fun _ _ => M64) = h at hw ⊢
    unfold quoH
    by_cases c : q.2 < q.1
    ·rw [if_pos c]; exact hw
    ·rw [if_neg c, h4_snd, hw]; rfl
   dsimp only
   rw [if_pos hw2]
   unfold divQ
   rw [if_pos ⟨cW.1, by dsimp only; omega, cW.2⟩]; rfl
  ·have hF : fitD a1 b1 = true ∧ fitD a1 (if -1 < b2 then -1 else b2) = true ∧ fitD a2 b1 = true ∧ fitD a2 (if -1 < b2 then -1 else b2) = true := by
    unfold fitD
    simp only [ne_eq, Bool.or_eq_true, decide_eq_true_eq]
    refine ⟨?_, ?_, ?_, ?_⟩ <;> (try split) <;> omega
   have e1 := h4_fst (h := (noR, false)) (a := (a1, a2)) (p := (b1, if -1 < b2 then -1 else b2)) hF
   dsimp only at e1
   rw [e1, join4]
   by_cases cP : 0 < b2
   ·rw [if_pos cP]
    have hpp : ¬ ((if b1 < 1 then 1 else b1, b2) : Rng).2 < ((if b1 < 1 then 1 else b1, b2) : Rng).1 := by dsimp only; split <;> omega
    unfold quoH
    rw [if_neg hpp]
    have e2 := h4_fst (h := (wideQ (hullQ (a1.tdiv b1) (a1.tdiv (if -1 < b2 then -1 else b2))) (hullQ (a2.tdiv b1) (a2.tdiv (if -1 < b2 then -1 else b2))), false)) (a := (a1, a2)) (p := (if b1 < 1 then 1 else b1, b2)) (hposF cP)
    dsimp only at e2
    rw [e2]
    have ho := quo_ord (a1, a2) (b1, if -1 < b2 then -1 else b2)
    unfold quoQ at ho
    dsimp only at ho ⊢
    rw [if_neg (by simp)]
    refine (join4_next ho _ _ _ _).trans ?_
    have hx : (if -1 < b2 then -1 else b2) = -1 := if_pos (by omega)
    have hy : (if b1 < 1 then 1 else b1) = 1 := if_pos (by omega)
    have hd : divQ (a1, a2) (b1, b2) = wideQ (quoQ (a1, a2) (b1, -1)) (quoQ (a1, a2) (1, b2)) := by
     unfold divQ
     dsimp only
     rw [if_neg (by omega), if_neg (by omega), if_neg (by omega), if_neg (by omega)]
    rw [hx, hy, hd]
    rfl
   ·rw [if_neg cP]
    unfold quoH
    rw [if_pos hno]
    dsimp only
    rw [if_neg (by simp)]
    have hx : (if -1 < b2 then -1 else b2) = if b2 = 0 then -1 else b2 := by (repeat' split) <;> omega
    have hd : divQ (a1, a2) (b1, b2) = quoQ (a1, a2) (b1, if b2 = 0 then -1 else b2) := by
     unfold divQ
     dsimp only
     rw [if_neg (by omega), if_neg (by omega), if_neg (by omega), if_pos (by omega)]
    rw [hx, hd]; rfl
 ·rw [if_neg cN]
  rw [quoH.eq_1 _ noR, if_pos hno]
  by_cases cP : 0 < b2
  ·rw [if_pos cP]
   have hpp : ¬ ((if b1 < 1 then 1 else b1, b2) : Rng).2 < ((if b1 < 1 then 1 else b1, b2) : Rng).1 := by dsimp only; split <;> omega
   unfold quoH
   rw [if_neg hpp]
   have e2 := h4_fst (h := (noR, false)) (a := (a1, a2)) (p := (if b1 < 1 then 1 else b1, b2)) (hposF cP)
   dsimp only at e2 ⊢
   rw [e2, join4, if_neg (by simp)]
   have hy : (if b1 < 1 then 1 else b1) = if b1 = 0 then 1 else b1 := by (repeat' split) <;> omega
   have hd : divQ (a1, a2) (b1, b2) = quoQ (a1, a2) (if b1 = 0 then 1 else b1, b2) := by
    unfold divQ
    dsimp only
    rw [if_neg (by omega), if_neg (by omega), if_pos (by omega)]
   rw [hy, hd]; rfl
  ·rw [if_neg cP]
   unfold quoH
   rw [if_pos hno]
   have hd : divQ (a1, a2) (b1, b2) = noR := by
    unfold divQ
    dsimp only
    rw [if_neg (by omega), if_pos (by omega)]
   rw [hd]; rfl
def restP (a b : Rng) : Rng :=
 if b = (0, 0) then noR else
  let k := if 0 < b.2 then imax (if b.1 < 0 then -(b.1 + 1) else 0) (b.2 - 1) else (if b.1 < 0 then -(b.1 + 1) else 0)
  (if a.1 < 0 then imax a.1 (-k) else 0, if 0 < a.2 then imin a.2 k else 0)
theorem restP_eq {a b : Rng} (nb : b.1 ≤ b.2) : restP a b = remQ a b := by
 obtain ⟨b1, b2⟩ := b
 unfold restP remQ
 dsimp only at *
 by_cases h : b1 = 0 ∧ b2 = 0
 ·rw [if_pos h, if_pos (by rw [h.1, h.2])]
 ·rw [if_neg h, if_neg (by intro e; cases e; exact h ⟨rfl, rfl⟩)]
  have : (if 0 < b2 then imax (if b1 < 0 then -(b1 + 1) else 0) (b2 - 1) else (if b1 < 0 then -(b1 + 1) else 0)) = far (b1, b2) := by
   unfold far imax; dsimp only; (repeat' split) <;> omega
  rw [this]
  refine Prod.ext ?_ ?_
  ·dsimp only; unfold imax; (repeat' split) <;> omega
  ·dsimp only; unfold imin; (repeat' split) <;> omega
def truP (always never : Bool) : Rng := if always then (1, 1) else if never then (0, 0) else (0, 1)
theorem truP_eq {al ne no ye : Bool} (h1 : no = !al) (h2 : ye = !ne) (h : ¬ (al = true ∧ ne = true)) : truP al ne = truQ no ye := by
 subst h1 h2
 cases al <;> cases ne <;> simp_all [truP, truQ]
def truthP (op : Int) (a b : Rng) : Rng :=
 if a.2 < a.1 ∨ b.2 < b.1 then noR else
 if op = 7 then truP (decide (a.1 = a.2) && decide (a = b)) (decide ((rMeet a b).2 < (rMeet a b).1)) else
 if op = 8 then truP (decide (a.2 < b.1)) (decide (b.2 ≤ a.1)) else
 if op = 9 then truP (decide (a.2 ≤ b.1)) (decide (b.2 < a.1)) else (0, 1)
theorem truth7 {a b : Rng} (na : a.1 ≤ a.2) (nb : b.1 ≤ b.2) : truthP 7 a b = eqQ a b := by
 unfold truthP
 rw [if_neg (by omega), if_pos rfl]
 refine truP_eq rfl rfl ?_
 rintro ⟨h1, h2⟩
 simp only [Bool.and_eq_true, decide_eq_true_eq, meet_ne] at h1 h2
 obtain ⟨h1, rfl⟩ := h1
 unfold imin imax at h2
 (repeat' split at h2) <;> omega
theorem truth8 {a b : Rng} (na : a.1 ≤ a.2) (nb : b.1 ≤ b.2) : truthP 8 a b = ltQ a b := by
 unfold truthP
 rw [if_neg (by omega), if_neg (by decide), if_pos rfl]
 refine truP_eq (by rw [← decide_not]; exact decide_eq_decide.2 (by omega)) (by rw [← decide_not]; exact decide_eq_decide.2 (by omega)) ?_
 simp only [decide_eq_true_eq]; omega
theorem truth9 {a b : Rng} (na : a.1 ≤ a.2) (nb : b.1 ≤ b.2) : truthP 9 a b = leQ a b := by
 unfold truthP
 rw [if_neg (by omega), if_neg (by decide), if_neg (by decide), if_pos rfl]
 refine truP_eq (by rw [← decide_not]; exact decide_eq_decide.2 (by omega)) (by rw [← decide_not]; exact decide_eq_decide.2 (by omega)) ?_
 simp only [decide_eq_true_eq]; omega
theorem notP_eq {a : Rng} (na : a.1 ≤ a.2) (h0 : 0 ≤ a.1) (h1 : a.2 ≤ 1) : ((1 - a.2, 1 - a.1) : Rng) = notQ a := by
 unfold notQ truQ
 refine Prod.ext ?_ ?_ <;> simp only [decide_eq_true_eq] <;> split <;> omega
theorem andP_eq {a b : Rng} (na : a.1 ≤ a.2) (nb : b.1 ≤ b.2) (h0 : 0 ≤ a.1) (h1 : a.2 ≤ 1) (g0 : 0 ≤ b.1) (g1 : b.2 ≤ 1) : ((imin a.1 b.1, imin a.2 b.2) : Rng) = andQ a b := by
 unfold andQ truQ imin
 refine Prod.ext ?_ ?_ <;> simp only [Bool.or_eq_true, Bool.and_eq_true, decide_eq_true_eq] <;> (repeat' split) <;> omega
def cutP (num : Int) (a b : Rng) : Rng :=
 if a.2 < a.1 ∨ b.2 < b.1 then noR else
 if num = 0 then (if b.2 = m64 then noR else rMade a.1 (imin a.2 (b.2 - 1))) else
 if num = 1 then rMade a.1 (imin a.2 b.2) else
 if num = 2 then rMeet a b else
 if num = 3 then rMade (imax a.1 b.1) a.2 else
 if num = 4 then (if b.1 = M64 then noR else rMade (imax a.1 (b.1 + 1)) a.2) else a
theorem cutP_eq {num : Int} {a b : Rng} (ha : ok64 a) (na : a.1 ≤ a.2) (nb : b.1 ≤ b.2) : cutP num a b = cutQ num a b := by
 have h1 := ha.1; have h2 := ha.2
 unfold is64 at h1 h2
 have e1 : imax a.1 m64 = a.1 := by unfold imax m64; split <;> omega
 have e2 : imin a.2 M64 = a.2 := by unfold imin M64; split <;> omega
 unfold cutP cutQ rMeet
 rw [if_neg (by omega)]
 dsimp only
 rw [e1, e2]
end Go.Proofs.YtjnpcfpecilejaaGreatDoor
namespace Go.Proofs.YtjnpcfpecilejaaGreatDoor
open Go.Proofs.Tryz
open Go.Proofs
theorem wrap_fit {z : Int} (h : is64 z) : IntKind.i64.wrap z = z := by
 unfold is64 at h
 unfold IntKind.wrap; simp [IntKind.bits, IntKind.signed]; omega
def selR (a : Rng) (i : Nat) : Int := if i = 0 then a.1 else a.2
theorem sel_ok {a : Rng} (h : ok64 a) (i : Nat) : is64 (selR a i) := by unfold selR; split; exact h.1; exact h.2
theorem sel_get {a : Rng} {i : Nat} (h : i < 2) : ([AV.int .i64 a.1, AV.int .i64 a.2] : List AV)[i]? = some (.int .i64 (selR a i)) := by
 rcases (by omega : i = 0 ∨ i = 1) with rfl | rfl <;> rfl
def hSt (n : Int → Int → Int) (fit : Int → Int → Bool) (e : Int → Int → Int) (h0 : Rng × Bool) (a b : Rng) : Nat → Rng × Bool
 | 0 => h0
 | m + 1 => hAdd (hSt n fit e h0 a b m) (n (selR a (m / 2)) (selR b (m % 2))) (fit (selR a (m / 2)) (selR b (m % 2))) (e (selR a (m / 2)) (selR b (m % 2)))
theorem hSt_step {n : Int → Int → Int} {fit : Int → Int → Bool} {e : Int → Int → Int} {h0 : Rng × Bool} {a b : Rng} (i : Nat) {j : Nat} (hj : j < 2) :
  hSt n fit e h0 a b (2 * i + (j + 1)) = hAdd (hSt n fit e h0 a b (2 * i + j)) (n (selR a i) (selR b j)) (fit (selR a i) (selR b j)) (e (selR a i) (selR b j)) := by
 rw [← Nat.add_assoc, hSt, show (2 * i + j) / 2 = i by omega, show (2 * i + j) % 2 = j by omega]
theorem hAdd_fit {h : Rng × Bool} {n n' : Int} {fits : Bool} {e e' : Int} (h1 : fits = true → n = n') (h2 : e = e') : hAdd h n fits e = hAdd h n' fits e' := by
 cases fits
 ·unfold hAdd; simp [h2]
 ·rw [h1 rfl, h2]
theorem add_fit {x y : Int} : decide (fit3 0 x y) = true → IntKind.i64.wrap (x + y) = op3 0 x y := fun h => wrap_fit (of_decide_eq_true h)
theorem sub_fit {x y : Int} : decide (fit3 1 x y) = true → IntKind.i64.wrap (x - y) = op3 1 x y := fun h => wrap_fit (of_decide_eq_true h)
theorem mul_fit3 {x y : Int} : decide (fit3 2 x y) = true → IntKind.i64.wrap (x * y) = op3 2 x y := fun h => wrap_fit (of_decide_eq_true h)
theorem sumB {x y : Int} (hx : is64 x) (hy : is64 y) : (!(decide (x < 0) == decide (y < 0)) || (decide (IntKind.i64.wrap (x + y) < 0) == decide (x < 0))) = decide (fit3 0 x y) := by
 have hw : IntKind.i64.wrap (x + y) = (if x + y < -9223372036854775808 then x + y + 18446744073709551616 else if 9223372036854775807 < x + y then x + y - 18446744073709551616 else x + y) := by
  unfold is64 at hx hy
  unfold IntKind.wrap; simp [IntKind.bits, IntKind.signed]; (repeat' split) <;> omega
 rw [hw, Bool.eq_iff_iff, decide_eq_true_eq]
 show _ ↔ is64 (x + y)
 unfold is64 at *
 simp only [Bool.or_eq_true, Bool.not_eq_true', beq_eq_false_iff_ne, beq_iff_eq, decide_eq_decide, ne_eq]
 (repeat' split) <;> omega
theorem subB {x y : Int} (hx : is64 x) (hy : is64 y) : ((decide (x < 0) == decide (y < 0)) || (decide (IntKind.i64.wrap (x - y) < 0) == decide (x < 0))) = decide (fit3 1 x y) := by
 have hw : IntKind.i64.wrap (x - y) = (if x - y < -9223372036854775808 then x - y + 18446744073709551616 else if 9223372036854775807 < x - y then x - y - 18446744073709551616 else x - y) := by
  unfold is64 at hx hy
  unfold IntKind.wrap; simp [IntKind.bits, IntKind.signed]; (repeat' split) <;> omega
 rw [hw, Bool.eq_iff_iff, decide_eq_true_eq]
 show _ ↔ is64 (x - y)
 unfold is64 at *
 simp only [Bool.or_eq_true, beq_iff_eq, decide_eq_decide]
 (repeat' split) <;> omega
theorem abs_wrap {x : Int} (h : is64 x) : (if x < 0 then IntKind.u64.wrap (0 - IntKind.u64.wrap x) else IntKind.u64.wrap x) = ((x.natAbs : Nat) : Int) := by
 unfold is64 at h
 unfold IntKind.wrap; simp [IntKind.bits, IntKind.signed]; split <;> omega
theorem abs_lt {x : Int} (h : is64 x) : x.natAbs < 18446744073709551616 := by unfold is64 at h; omega
theorem mulB {x y : Int} : (decide (((x.natAbs * y.natAbs / 18446744073709551616 : Nat) : Int) = 0) && decide (((x.natAbs * y.natAbs % 18446744073709551616 : Nat) : Int) ≤ (if (!(decide (x < 0) == decide (y < 0))) = true then 9223372036854775808 else 9223372036854775807))) = decide (fit3 2 x y) := by
 have hm := Int.natAbs_mul x y
 rw [Bool.eq_iff_iff, decide_eq_true_eq (p := fit3 2 x y)]
 show _ ↔ is64 (x * y)
 unfold is64
 rw [← hm]
 have hs : (x < 0 ↔ y < 0) → 0 ≤ x * y := fun h => by
  by_cases hx : x < 0
  ·exact Int.le_of_lt (Int.mul_pos_of_neg_of_neg hx (h.1 hx))
  ·exact Int.mul_nonneg (by omega) (by have := mt h.2 hx; omega)
 have hd : ¬ (x < 0 ↔ y < 0) → x * y ≤ 0 := fun h => by
  by_cases hx : x < 0
  ·have hy : ¬ y < 0 := fun hy => h ⟨fun _ => hy, fun _ => hx⟩
   exact Int.mul_nonpos_of_nonpos_of_nonneg (by omega) (by omega)
  ·have hy : y < 0 := Classical.byContradiction fun hy => h ⟨fun h => absurd h hx, fun h => absurd h hy⟩
   exact Int.mul_nonpos_of_nonneg_of_nonpos (by omega) (by omega)
 generalize x * y = z at *
 simp only [Bool.and_eq_true, decide_eq_true_eq, Bool.not_eq_true', beq_eq_false_iff_ne, decide_eq_decide, ne_eq]
 by_cases c : (x < 0 ↔ y < 0)
 ·have := hs c
  rw [if_neg (by simp [c])]; omega
 ·have := hd c
  rw [if_pos c]; omega
theorem near_0 (x y : Int) : (if decide (x < 0) = true then m64 else M64) = near3 0 x y := rfl
theorem near_1 (x y : Int) : (if decide (x < 0) = true then m64 else M64) = near3 1 x y := rfl
theorem near_2 (x y : Int) : (if (!(decide (x < 0) == decide (y < 0))) = true then m64 else M64) = near3 2 x y := rfl
theorem quo_fit {x y : Int} (hx : is64 x) (hy : y ≠ 0) (h : fitD x y = true) : IntKind.i64.wrap (x.tdiv y) = x.tdiv y := by
 refine wrap_fit ?_
 have h1 : (x.tdiv y).natAbs = x.natAbs / y.natAbs := Int.natAbs_tdiv x y
 have h2 : x.natAbs / y.natAbs ≤ x.natAbs := Nat.div_le_self _ _
 unfold is64 at *
 by_cases e : x = -9223372036854775808
 ·subst e
  have hy1 : y ≠ -1 := by unfold fitD m64 at h; simpa using h
  by_cases h3 : y = 1
  ·subst h3; rw [Int.tdiv_one]; omega
  ·have h4 : 2 ≤ y.natAbs := by omega
   have h5 : (-9223372036854775808 : Int).natAbs / y.natAbs ≤ (-9223372036854775808 : Int).natAbs / 2 := Nat.div_le_div_left h4 (by omega)
   have h6 : (-9223372036854775808 : Int).natAbs / 2 = 4611686018427387904 := by decide
   omega
 ·omega
def partR (b : Rng) (q : Nat) : Rng := if q = 0 then rMeet b (m64, -1) else rMeet b (1, M64)
def quoT (a b : Rng) : Nat → Rng × Bool
 | 0 => (noR, false)
 | q + 1 => quoH a (partR b q) (quoT a b q)
theorem quoT_2 (a b : Rng) : quotP a b = if (quoT a b 2).2 then allR else (quoT a b 2).1 := rfl
theorem part_nz {b : Rng} {q j : Nat} (h : ¬ (partR b q).2 < (partR b q).1) : selR (partR b q) j ≠ 0 := by
 unfold partR at *
 unfold selR
 split at h
 ·rename_i hq
  rw [if_pos hq]
  unfold rMeet rMade imin imax noR at *
  dsimp only at *
  (repeat' split at h) <;> (repeat' split) <;> (try dsimp only at *) <;> omega
 ·rename_i hq
  rw [if_neg hq]
  unfold rMeet rMade imin imax noR at *
  dsimp only at *
  (repeat' split at h) <;> (repeat' split) <;> (try dsimp only at *) <;> omega
def encZ (r : Rng) : List AV := [.int .i64 r.1, .int .i64 r.2]
def encH (h : Rng × Bool) : List AV := [.int .i64 h.1.1, .int .i64 h.1.2, .bool h.2]
theorem aggR {r : Rng} {x y : Int} (h1 : x = r.1) (h2 : y = r.2) : AV.agg [.int .i64 x, .int .i64 y] = AV.agg (encZ r) := by subst h1 h2; rfl
theorem part_get {b : Rng} {q : Nat} (h : q < 2) : ((encZ (rMeet b (m64, -1)) ++ encZ (rMeet b (1, M64))).drop (q * 2)).take 2 = encZ (partR b q) := by
 rcases (by omega : q = 0 ∨ q = 1) with rfl | rfl <;> rfl
end Go.Proofs.YtjnpcfpecilejaaGreatDoor
namespace Go.Proofs.YtjnpcfpecilejaaGreatDoor
open Go.Proofs.Tryz
open Go.Proofs
theorem pl74 : Places Tryz.prog 74 #[(0, 1), (1, 1)] [.int .i64 0, .int .i64 0] := ⟨_, _, underlying74, zeroValue74, fun w => by kernel_rfl, rfl⟩
variable {E : World}
set_option maxRecDepth 20000
theorem eq_range (a b c d : Int) (w : World) : (Op.equalIn 10000 74 (.agg [.int .i64 a, .int .i64 b].toArray) (.agg [.int .i64 c, .int .i64 d].toArray)).run Tryz.prog w = .ok (decide (a = c ∧ b = d)) w := by
 have hS : Tryz.prog.underlying 74 = some (.struct (Tryz.prog.fieldsOf 74)) := by kernel_rfl
 have hp : Tryz.prog.stoodInHeld 74 = false := by kernel_rfl
 rw [show (10000 : Nat) = 9999 + 1 from rfl, run_equalIn_agg w 9999 _ _ _ hS hp]
 simp only [Program.fieldsOf, underlying74]
 simp [Op.eqFields, part, isAgg2, run_equalIn_int, underlying2]
 by_cases h1 : a = c <;> by_cases h2 : b = d <;> simp [h1, h2]
theorem iNone : AFun Tryz.prog E 68 [] (.agg (encZ noR)) := by
 refine zy func68 rfl (by decide) rfl<|za<|z7 rfl<|y1 (cs := [.int .i64 0, .int .i64 0]) zeroValue74 rfl rfl<|fun i0 => z6<|za<|z7 rfl<|z2 (y9 (cps := [(0, [_]), (1, [_])]) (rs := [_, _]) pl74 rfl rfl rfl)<|zi sizeOf74 rfl rfl rfl rfl rfl rfl .head rfl<|z6<|zj<|yl rfl ⟨_, .head⟩ isAgg74 sizeOf74 rfl ?_
 rfl
theorem iOf (n : Int) : AFun Tryz.prog E 74 [.int .i64 n] (.agg (encZ (rOf n))) := by
 refine zy func74 rfl (by decide) rfl<|za<|z7 rfl<|y1 (cs := [.int .i64 0, .int .i64 0]) zeroValue74 rfl rfl<|fun i2 => z6<|za<|z7 rfl<|z2 (zc (v := .int _ _) rfl)<|z2 (zc (v := .int _ _) rfl)<|z2 (y9 (cps := [(0, [_]), (1, [_])]) (rs := [_, _]) pl74 rfl rfl rfl)<|zi sizeOf74 rfl rfl rfl rfl rfl rfl .head rfl<|z6<|zj<|yl rfl ⟨_, .head⟩ isAgg74 sizeOf74 rfl ?_
 rfl
theorem iAll : AFun Tryz.prog E 118 [] (.agg (encZ allR)) := by
 refine zy func118 rfl (by decide) rfl<|za<|z7 rfl<|y1 (cs := [.int .i64 0, .int .i64 0]) zeroValue74 rfl rfl<|fun i0 => z6<|za<|z7 rfl<|z2 (y9 (cps := [(0, [_]), (1, [_])]) (rs := [_, _]) pl74 rfl rfl rfl)<|zi sizeOf74 rfl rfl rfl rfl rfl rfl .head rfl<|z6<|zj<|yl rfl ⟨_, .head⟩ isAgg74 sizeOf74 rfl ?_
 rfl
theorem iType (t : Int) : AFun Tryz.prog E 73 [.int .i64 t] (.agg (encZ (rType t))) := by
 refine zy func73 rfl (by decide) rfl<|za<|z7 rfl<|y1 (cs := [.int .i64 0, .int .i64 0]) zeroValue74 rfl rfl<|fun i2 => z6<|za<|za<|z7 rfl<|z2 (zc (v := .int _ _) rfl)<|z6<|zq<|za<|z7 rfl<|z2 (y6 rfl rfl)<|z2 (zd (v := .bool _) rfl)<|z6<|y8 rfl (fun c1 => ?_) (fun c1 => ?_)
 ·refine za<|z7 rfl<|zh (iAll) rfl<|zi sizeOf74 rfl rfl rfl rfl rfl rfl .head rfl<|z6<|zj<|yl rfl ⟨_, .head⟩ isAgg74 sizeOf74 rfl ?_
  exact aggR (by simp_all [rType, allR]) (by simp_all [rType, allR])
 ·refine za<|z7 rfl<|z2 (y6 rfl rfl)<|z2 (zd (v := .bool _) rfl)<|z6<|y8 rfl (fun c2 => ?_) (fun c2 => ?_)
  ·refine za<|z7 rfl<|z2 (y9 (cps := [(0, [_]), (1, [_])]) (rs := [_, _]) pl74 rfl rfl rfl)<|zi sizeOf74 rfl rfl rfl rfl rfl rfl .head rfl<|z6<|zj<|yl rfl ⟨_, .head⟩ isAgg74 sizeOf74 rfl ?_
   exact aggR (by simp_all [rType, allR]) (by simp_all [rType, allR])
  ·refine za<|z7 rfl<|z2 (y6 rfl rfl)<|z2 (zd (v := .bool _) rfl)<|z6<|y8 rfl (fun c3 => ?_) (fun c3 => ?_)
   ·refine za<|z7 rfl<|z2 (y9 (cps := [(0, [_]), (1, [_])]) (rs := [_, _]) pl74 rfl rfl rfl)<|zi sizeOf74 rfl rfl rfl rfl rfl rfl .head rfl<|z6<|zj<|yl rfl ⟨_, .head⟩ isAgg74 sizeOf74 rfl ?_
    exact aggR (by simp_all [rType, allR]) (by simp_all [rType, allR])
   ·refine zk<|za<|z7 rfl<|zh (iNone) rfl<|zi sizeOf74 rfl rfl rfl rfl rfl rfl .head rfl<|z6<|zj<|yl rfl ⟨_, .head⟩ isAgg74 sizeOf74 rfl ?_
    exact aggR (by simp_all [rType, allR]) (by simp_all [rType, allR])
theorem iMade (lo hi : Int) : AFun Tryz.prog E 131 [.int .i64 lo, .int .i64 hi] (.agg (encZ (rMade lo hi))) := by
 refine zy func131 rfl (by decide) rfl<|za<|z7 rfl<|y1 (cs := [.int .i64 0, .int .i64 0]) zeroValue74 rfl rfl<|fun i4 => z6<|za<|za<|z7 rfl<|z2 (zc (v := .int _ _) rfl)<|z2 (zc (v := .int _ _) rfl)<|z2 (q7 rfl rfl)<|z6<|zt rfl (fun c => ?_) (fun c => ?_)
 ·refine za<|z7 rfl<|zh (iNone) rfl<|zi sizeOf74 rfl rfl rfl rfl rfl rfl .head rfl<|z6<|zj<|yl rfl ⟨_, .head⟩ isAgg74 sizeOf74 rfl ?_
  rw [rMade, if_pos c]; try rfl
 ·refine zk<|za<|z7 rfl<|z2 (zc (v := .int _ _) rfl)<|z2 (zc (v := .int _ _) rfl)<|z2 (y9 (cps := [(0, [_]), (1, [_])]) (rs := [_, _]) pl74 rfl rfl rfl)<|zi sizeOf74 rfl rfl rfl rfl rfl rfl .head rfl<|z6<|zj<|yl rfl ⟨_, .head⟩ isAgg74 sizeOf74 rfl ?_
  rw [rMade, if_neg c]; try rfl
theorem iMeet (a b : Rng) : AFun Tryz.prog E 81 [.agg (encZ a), .agg (encZ b)] (.agg (encZ (rMeet a b))) := by
 refine zy func81 rfl (by decide) rfl<|za<|z7 rfl<|yc (cs := _) rfl rfl rfl<|yc (cs := _) rfl rfl rfl<|y1 (cs := [.int .i64 0, .int .i64 0]) zeroValue74 rfl rfl<|fun i4 => z6<|za<|z7 rfl<|z2 (zg underlying74 rfl sizeOf2 (by decide) rfl rfl)<|z2 (zf (c := .int _ _) isAgg2 rfl)<|z2 (zg underlying74 rfl sizeOf2 (by decide) rfl rfl)<|z2 (zf (c := .int _ _) isAgg2 rfl)<|z2 (Gv.maxI rfl rfl)<|z2 (zg underlying74 rfl sizeOf2 (by decide) rfl rfl)<|z2 (zf (c := .int _ _) isAgg2 rfl)<|z2 (zg underlying74 rfl sizeOf2 (by decide) rfl rfl)<|z2 (zf (c := .int _ _) isAgg2 rfl)<|z2 (Gv.minI rfl rfl)<|zh (iMade _ _) rfl<|zi sizeOf74 rfl rfl rfl rfl rfl rfl .head rfl<|z6<|zj<|yl rfl ⟨_, .head⟩ isAgg74 sizeOf74 rfl ?_
 rfl
theorem iEmpty (r : Rng) : AFun Tryz.prog E 82 [.agg (encZ r)] (.bool (decide (r.2 < r.1))) := by
 refine zy func82 rfl (by decide) rfl<|za<|z7 rfl<|yc (cs := _) rfl rfl rfl<|z2 (zd (v := .bool _) rfl)<|z6<|za<|z7 rfl<|z2 (zg underlying74 rfl sizeOf2 (by decide) rfl rfl)<|z2 (zf (c := .int _ _) isAgg2 rfl)<|z2 (zg underlying74 rfl sizeOf2 (by decide) rfl rfl)<|z2 (zf (c := .int _ _) isAgg2 rfl)<|z2 (q7 rfl rfl)<|z2 (zd (v := .bool _) rfl)<|z6<|zj<|zx (x := .bool _) rfl ?_
 rfl
theorem iHas (r : Rng) (n : Int) : AFun Tryz.prog E 110 [.agg (encZ r), .int .i64 n] (.bool (decide (r.1 ≤ n) && decide (n ≤ r.2))) := by
 refine zy func110 rfl (by decide) rfl<|za<|z7 rfl<|yc (cs := _) rfl rfl rfl<|z2 (zd (v := .bool _) rfl)<|z6<|za<|z7 rfl<|z2 (zc (v := .int _ _) rfl)<|z2 (zg underlying74 rfl sizeOf2 (by decide) rfl rfl)<|z2 (zf (c := .int _ _) isAgg2 rfl)<|z2 (qf rfl rfl)<|z2 (zc (v := .bool _) rfl)<|zz (s := 9) rfl (fun c4 => ?_) (fun c4 => ?_)
 ·refine zb rfl rfl c4<|z2 (zc (v := .int _ _) rfl)<|zb rfl rfl c4<|z2 (zg underlying74 rfl sizeOf2 (by decide) rfl rfl)<|zb rfl rfl c4<|z2 (zf (c := .int _ _) isAgg2 rfl)<|zb rfl rfl c4<|z2 (Gv.leq rfl rfl)<|z2 (zu (v := .bool _) rfl c4 rfl)<|z2 (zd (v := .bool _) rfl)<|z6<|zj<|zx (x := .bool _) rfl ?_
  exact jb (by simp_all <;> omega)
 ·refine z8 rfl rfl c4<|z8 rfl rfl c4<|z8 rfl rfl c4<|z8 rfl rfl c4<|z2 (zw (v := .bool _) rfl c4 rfl)<|z2 (zd (v := .bool _) rfl)<|z6<|zj<|zx (x := .bool _) rfl ?_
  exact jb (by simp_all <;> omega)
def withinB (a b : Rng) : Bool := decide (a.2 < a.1 ∨ (b.1 ≤ a.1 ∧ a.2 ≤ b.2))
theorem iWithin (a b : Rng) : AFun Tryz.prog E 66 [.agg (encZ a), .agg (encZ b)] (.bool (withinB a b)) := by
 refine zy func66 rfl (by decide) rfl<|za<|z7 rfl<|yc (cs := _) rfl rfl rfl<|yc (cs := _) rfl rfl rfl<|z2 (zd (v := .bool _) rfl)<|z6<|za<|z7 rfl<|z2 (zo isAgg74 sizeOf74 rfl rfl)<|zh (iEmpty _) rfl<|z2 (zc (v := .bool _) rfl)<|zz (s := 7) rfl (fun c5 => ?_) (fun c5 => ?_)
 ·refine z8 rfl rfl c5<|z8 rfl rfl c5<|z8 rfl rfl c5<|z8 rfl rfl c5<|z8 rfl rfl c5<|zm rfl rfl<|zm rfl rfl<|zm rfl rfl<|zm rfl rfl<|z8 rfl rfl c5<|z2 (zu (v := .bool _) rfl c5 rfl)<|z2 (zd (v := .bool _) rfl)<|z6<|zj<|zx (x := .bool _) rfl ?_
  exact jb (by unfold withinB; rw [Bool.eq_iff_iff]; simp_all <;> omega)
 ·refine zb rfl rfl c5<|z2 (zo isAgg74 sizeOf74 rfl rfl)<|zb rfl rfl c5<|z2 (zg underlying74 rfl sizeOf2 (by decide) rfl rfl)<|zb rfl rfl c5<|z2 (zf (c := .int _ _) isAgg2 rfl)<|zb rfl rfl c5<|zh (iHas _ _) rfl<|zb rfl rfl c5<|z2 (zc (v := .bool _) rfl)<|zz (s := 12) rfl (fun c6 => ?_) (fun c6 => ?_)
  ·refine zb rfl rfl c6<|z2 (zo isAgg74 sizeOf74 rfl rfl)<|zb rfl rfl c6<|z2 (zg underlying74 rfl sizeOf2 (by decide) rfl rfl)<|zb rfl rfl c6<|z2 (zf (c := .int _ _) isAgg2 rfl)<|zb rfl rfl c6<|zh (iHas _ _) rfl<|zb rfl rfl c5<|z2 (zu (v := .bool _) rfl c6 rfl)<|z2 (zw (v := .bool _) rfl c5 rfl)<|z2 (zd (v := .bool _) rfl)<|z6<|zj<|zx (x := .bool _) rfl ?_
   exact jb (by unfold withinB; rw [Bool.eq_iff_iff]; simp_all <;> omega)
  ·refine z8 rfl rfl c6<|z8 rfl rfl c6<|z8 rfl rfl c6<|z8 rfl rfl c6<|zb rfl rfl c5<|z2 (zw (v := .bool _) rfl c6 rfl)<|z2 (zw (v := .bool _) rfl c5 rfl)<|z2 (zd (v := .bool _) rfl)<|z6<|zj<|zx (x := .bool _) rfl ?_
   exact jb (by unfold withinB; rw [Bool.eq_iff_iff]; simp_all <;> omega)
theorem iJoin (a b : Rng) : AFun Tryz.prog E 181 [.agg (encZ a), .agg (encZ b)] (.agg (encZ (rJoin a b))) := by
 refine zy func181 rfl (by decide) rfl<|za<|z7 rfl<|yc (cs := _) rfl rfl rfl<|yc (cs := _) rfl rfl rfl<|y1 (cs := [.int .i64 0, .int .i64 0]) zeroValue74 rfl rfl<|fun i4 => z6<|za<|zq<|za<|z7 rfl<|z2 (zo isAgg74 sizeOf74 rfl rfl)<|zh (iEmpty _) rfl<|z2 (zd (v := .bool _) rfl)<|z6<|zt rfl (fun c1 => ?_) (fun c1 => ?_)
 ·refine za<|z7 rfl<|z2 (zg underlying74 rfl sizeOf2 (by decide) rfl rfl)<|z2 (zf (c := .int _ _) isAgg2 rfl)<|z2 (zg underlying74 rfl sizeOf2 (by decide) rfl rfl)<|z2 (zf (c := .int _ _) isAgg2 rfl)<|zh (iMade _ _) rfl<|zi sizeOf74 rfl rfl rfl rfl rfl rfl .head rfl<|z6<|zj<|yl rfl ⟨_, .head⟩ isAgg74 sizeOf74 rfl ?_
  rw [rJoin, if_pos c1]; try rfl
 ·refine za<|z7 rfl<|z2 (zo isAgg74 sizeOf74 rfl rfl)<|zh (iEmpty _) rfl<|z2 (zd (v := .bool _) rfl)<|z6<|zt rfl (fun c2 => ?_) (fun c2 => ?_)
  ·refine za<|z7 rfl<|z2 (zo isAgg74 sizeOf74 rfl rfl)<|zi sizeOf74 rfl rfl rfl rfl rfl rfl .head rfl<|z6<|zj<|yl rfl ⟨_, .head⟩ isAgg74 sizeOf74 rfl ?_
   rw [rJoin, if_neg c1, if_pos c2]; try rfl
  ·refine zk<|za<|z7 rfl<|z2 (zg underlying74 rfl sizeOf2 (by decide) rfl rfl)<|z2 (zf (c := .int _ _) isAgg2 rfl)<|z2 (zg underlying74 rfl sizeOf2 (by decide) rfl rfl)<|z2 (zf (c := .int _ _) isAgg2 rfl)<|z2 (Gv.minI rfl rfl)<|z2 (zg underlying74 rfl sizeOf2 (by decide) rfl rfl)<|z2 (zf (c := .int _ _) isAgg2 rfl)<|z2 (zg underlying74 rfl sizeOf2 (by decide) rfl rfl)<|z2 (zf (c := .int _ _) isAgg2 rfl)<|z2 (Gv.maxI rfl rfl)<|z2 (y9 (cps := [(0, [_]), (1, [_])]) (rs := [_, _]) pl74 rfl rfl rfl)<|zi sizeOf74 rfl rfl rfl rfl rfl rfl .head rfl<|z6<|zj<|yl rfl ⟨_, .head⟩ isAgg74 sizeOf74 rfl ?_
   rw [rJoin, if_neg c1, if_neg c2]; try rfl
theorem iNear (b : Bool) : AFun Tryz.prog E 235 [.bool b] (.int .i64 (if b = true then m64 else M64)) := by
 refine zy func235 rfl (by decide) rfl<|za<|z7 rfl<|z2 (zd (v := .int _ _) rfl)<|z6<|za<|za<|z7 rfl<|z2 (zc (v := .bool _) rfl)<|z6<|y8 rfl (fun c7 => ?_) (fun c7 => ?_)
 ·refine za<|z7 rfl<|z2 (zd (v := .int _ _) rfl)<|z6<|zj<|zx (x := .int _ _) rfl ?_
  simp_all [m64, M64]
 ·refine zk<|za<|z7 rfl<|z2 (zd (v := .int _ _) rfl)<|z6<|zj<|zx (x := .int _ _) rfl ?_
  simp_all [m64, M64]
theorem iSums (op : Int) : AFun Tryz.prog E 217 [.int .i64 op] (.bool (decide (op = 2) || (decide (op = 3) || decide (op = 4)))) := by
 refine zy func217 rfl (by decide) rfl<|za<|z7 rfl<|z2 (zd (v := .bool _) rfl)<|z6<|za<|z7 rfl<|z2 (zc (v := .int _ _) rfl)<|z2 (y6 rfl rfl)<|z2 (zc (v := .bool _) rfl)<|zz (s := 5) rfl (fun c8 => ?_) (fun c8 => ?_)
 ·refine z8 rfl rfl c8<|z8 rfl rfl c8<|z2 (zu (v := .bool _) rfl c8 rfl)<|z2 (zc (v := .bool _) rfl)<|z8 rfl rfl rfl<|z8 rfl rfl rfl<|z2 (zu (v := .bool _) rfl rfl rfl)<|z2 (zd (v := .bool _) rfl)<|z6<|zj<|zx (x := .bool _) rfl ?_
  exact jb (by simp_all)
 ·refine zb rfl rfl c8<|z2 (zc (v := .int _ _) rfl)<|zb rfl rfl c8<|z2 (y6 rfl rfl)<|z2 (zw (v := .bool _) rfl c8 rfl)<|z2 (zc (v := .bool _) rfl)<|zz (s := 9) rfl (fun c9 => ?_) (fun c9 => ?_)
  ·refine z8 rfl rfl c9<|z8 rfl rfl c9<|z2 (zu (v := .bool _) rfl c9 rfl)<|z2 (zd (v := .bool _) rfl)<|z6<|zj<|zx (x := .bool _) rfl ?_
   exact jb (by simp_all)
  ·refine zb rfl rfl c9<|z2 (zc (v := .int _ _) rfl)<|zb rfl rfl c9<|z2 (y6 rfl rfl)<|z2 (zw (v := .bool _) rfl c9 rfl)<|z2 (zd (v := .bool _) rfl)<|z6<|zj<|zx (x := .bool _) rfl ?_
   exact jb (by simp_all)
theorem aAdd {x y : Int} (hx : is64 x) (hy : is64 y) : AFun Tryz.prog E 223 [.int .i64 x, .int .i64 y] (.tup [.int .i64 (IntKind.i64.wrap (x + y)), .bool (decide (fit3 0 x y))]) := by
 rw [← sumB hx hy]
 refine zy func223 rfl (by decide) rfl<|za<|z7 rfl<|z2 (zd (v := .int _ _) rfl)<|z2 (zd (v := .bool _) rfl)<|z6<|za<|z7 rfl<|z2 (zc (v := .int _ _) rfl)<|z2 (zc (v := .int _ _) rfl)<|z2 (Gv.addW rfl rfl)<|z2 (zd (v := .int _ _) rfl)<|z6<|za<|z7 rfl<|z2 (zc (v := .int _ _) rfl)<|z2 (zc (v := .int _ _) rfl)<|z2 (yj rfl rfl)<|z2 (zc (v := .int _ _) rfl)<|z2 (yj rfl rfl)<|z2 (Gv.neqB underlying4 rfl rfl)<|z2 (zc (v := .bool _) rfl)<|zz (s := 16) rfl (fun c10 => ?_) (fun c10 => ?_)
 ·refine z8 rfl rfl c10<|z8 rfl rfl c10<|z8 rfl rfl c10<|z8 rfl rfl c10<|z8 rfl rfl c10<|z2 (zu (v := .bool _) rfl c10 rfl)<|z2 (zd (v := .int _ _) rfl)<|z2 (zd (v := .bool _) rfl)<|z6<|zj<|qk (x := .int _ _) (y := .bool _) rfl rfl ?_
  simp_all
 ·refine zb rfl rfl c10<|z2 (zc (v := .int _ _) rfl)<|zb rfl rfl c10<|z2 (yj rfl rfl)<|zb rfl rfl c10<|z2 (zc (v := .int _ _) rfl)<|zb rfl rfl c10<|z2 (yj rfl rfl)<|zb rfl rfl c10<|z2 (Gv.eqlB underlying4 rfl rfl)<|z2 (zw (v := .bool _) rfl c10 rfl)<|z2 (zd (v := .int _ _) rfl)<|z2 (zd (v := .bool _) rfl)<|z6<|zj<|qk (x := .int _ _) (y := .bool _) rfl rfl ?_
  simp_all
theorem aSub {x y : Int} (hx : is64 x) (hy : is64 y) : AFun Tryz.prog E 236 [.int .i64 x, .int .i64 y] (.tup [.int .i64 (IntKind.i64.wrap (x - y)), .bool (decide (fit3 1 x y))]) := by
 rw [← subB hx hy]
 refine zy func236 rfl (by decide) rfl<|za<|z7 rfl<|z2 (zd (v := .int _ _) rfl)<|z2 (zd (v := .bool _) rfl)<|z6<|za<|z7 rfl<|z2 (zc (v := .int _ _) rfl)<|z2 (zc (v := .int _ _) rfl)<|z2 (Gv.subW rfl rfl)<|z2 (zd (v := .int _ _) rfl)<|z6<|za<|z7 rfl<|z2 (zc (v := .int _ _) rfl)<|z2 (zc (v := .int _ _) rfl)<|z2 (yj rfl rfl)<|z2 (zc (v := .int _ _) rfl)<|z2 (yj rfl rfl)<|z2 (Gv.eqlB underlying4 rfl rfl)<|z2 (zc (v := .bool _) rfl)<|zz (s := 16) rfl (fun c11 => ?_) (fun c11 => ?_)
 ·refine z8 rfl rfl c11<|z8 rfl rfl c11<|z8 rfl rfl c11<|z8 rfl rfl c11<|z8 rfl rfl c11<|z2 (zu (v := .bool _) rfl c11 rfl)<|z2 (zd (v := .int _ _) rfl)<|z2 (zd (v := .bool _) rfl)<|z6<|zj<|qk (x := .int _ _) (y := .bool _) rfl rfl ?_
  simp_all
 ·refine zb rfl rfl c11<|z2 (zc (v := .int _ _) rfl)<|zb rfl rfl c11<|z2 (yj rfl rfl)<|zb rfl rfl c11<|z2 (zc (v := .int _ _) rfl)<|zb rfl rfl c11<|z2 (yj rfl rfl)<|zb rfl rfl c11<|z2 (Gv.eqlB underlying4 rfl rfl)<|z2 (zw (v := .bool _) rfl c11 rfl)<|z2 (zd (v := .int _ _) rfl)<|z2 (zd (v := .bool _) rfl)<|z6<|zj<|qk (x := .int _ _) (y := .bool _) rfl rfl ?_
  simp_all
theorem aAbs {x : Int} (hx : is64 x) : AFun Tryz.prog E 256 [.int .i64 x] (.int .u64 (x.natAbs : Int)) := by
 rw [← abs_wrap hx]
 refine zy func256 rfl (by decide) rfl<|za<|z7 rfl<|z2 (zd (v := .int _ _) rfl)<|z6<|za<|za<|z7 rfl<|z2 (zc (v := .int _ _) rfl)<|z2 (yj rfl rfl)<|z6<|zt rfl (fun c => ?_) (fun c => ?_)
 ·refine za<|z7 rfl<|z2 (zc (v := .int _ _) rfl)<|z2 (qi underlying2 underlying232 rfl)<|z2 (Gv.neg rfl)<|z2 (zd (v := .int _ _) rfl)<|z6<|zj<|zx (x := .int _ _) rfl ?_
  rw [if_pos c]; try rfl
 ·refine zk<|za<|z7 rfl<|z2 (zc (v := .int _ _) rfl)<|z2 (qi underlying2 underlying232 rfl)<|z2 (zd (v := .int _ _) rfl)<|z6<|zj<|zx (x := .int _ _) rfl ?_
  rw [if_neg c]; try rfl
theorem aDiv {x y : Int} (hy : y ≠ 0) : AFun Tryz.prog E 238 [.int .i64 x, .int .i64 y] (.tup [.int .i64 (IntKind.i64.wrap (x.tdiv y)), .bool true]) := by
 refine zy func238 rfl (by decide) rfl<|za<|z7 rfl<|z2 (zd (v := .int _ _) rfl)<|z2 (zd (v := .bool _) rfl)<|z6<|za<|za<|z7 rfl<|z2 (zc (v := .int _ _) rfl)<|z2 (y6 rfl rfl)<|z6<|q4 rfl (by simpa using hy)<|zk<|za<|z7 rfl<|z2 (zc (v := .int _ _) rfl)<|z2 (zc (v := .int _ _) rfl)<|z2 (Gv.quo rfl rfl (by omega))<|z2 (zd (v := .int _ _) rfl)<|z2 (zd (v := .bool _) rfl)<|z6<|zj<|qk (x := .int _ _) (y := .bool _) rfl rfl ?_
 rfl
end Go.Proofs.YtjnpcfpecilejaaGreatDoor
namespace Go.Proofs.YtjnpcfpecilejaaGreatDoor
open Go.Proofs.Tryz
open Go.Proofs
theorem wrap_s (z : Int) : IntKind.i64.wrap z = (z + 9223372036854775808) % 18446744073709551616 - 9223372036854775808 := by
 unfold IntKind.wrap; simp [IntKind.bits, IntKind.signed]; (try split) <;> omega
theorem wrap_u (z : Int) : IntKind.u64.wrap z = z % 18446744073709551616 := by
 unfold IntKind.wrap; simp [IntKind.bits, IntKind.signed]
theorem wrapU_add (x y : Int) : IntKind.i64.wrap (IntKind.u64.wrap (IntKind.u64.wrap x + IntKind.u64.wrap y)) = IntKind.i64.wrap (x + y) := by
 simp only [wrap_s, wrap_u]; omega
theorem wrapU_sub (x y : Int) : IntKind.i64.wrap (IntKind.u64.wrap (IntKind.u64.wrap x - IntKind.u64.wrap y)) = IntKind.i64.wrap (x - y) := by
 simp only [wrap_s, wrap_u]; omega
theorem wrapU_mul (x y : Int) : IntKind.i64.wrap (IntKind.u64.wrap (IntKind.u64.wrap x * IntKind.u64.wrap y)) = IntKind.i64.wrap (x * y) := by
 simp only [wrap_s, wrap_u]
 rw [← Int.mul_emod]; omega
theorem wrapU_neg (x : Int) : IntKind.i64.wrap (IntKind.u64.wrap (0 - IntKind.u64.wrap x)) = IntKind.i64.wrap (x.tdiv (-1)) := by
 rw [show x.tdiv (-1) = -x by rw [Int.tdiv_neg, Int.tdiv_one]]
 simp only [wrap_s, wrap_u]; omega
theorem fitU {x y : Int} (hx : is64 x) (hx0 : x ≠ 0) (hy0 : y ≠ 0) : decide ((x.natAbs : Int) ≤ IntKind.u64.wrap ((if (decide (x < 0) == decide (y < 0)) = true then 9223372036854775807 else 9223372036854775808 : Int).tdiv (y.natAbs : Int))) = decide (fit3 2 x y) := by
 rw [decide_eq_decide, ← fitMul x y hx0 hy0]
 obtain ⟨l, hl⟩ : ∃ l : Nat, (if decide (x < 0) = decide (y < 0) then 9223372036854775807 else 9223372036854775808) = l := ⟨_, rfl⟩
 have hl2 : (if (decide (x < 0) == decide (y < 0)) = true then 9223372036854775807 else 9223372036854775808 : Int) = (l : Int) := by
  rw [← hl]
  by_cases h : decide (x < 0) = decide (y < 0)
  ·rw [if_pos h, if_pos (by simpa using h)]; rfl
  ·rw [if_neg h, if_neg (by simpa using h)]; rfl
 have hll : l ≤ 9223372036854775808 := by rw [← hl]; split <;> omega
 rw [hl, hl2, show ((l : Int)).tdiv (y.natAbs : Int) = ((l / y.natAbs : Nat) : Int) from rfl, wrap_u]
 have h3 := Nat.div_le_self l y.natAbs
 generalize l / y.natAbs = q at h3 ⊢
 omega
theorem far_wrap {b : Rng} (hb : ok64 b) (h : ¬ (b.1 = 0 ∧ b.2 = 0)) : IntKind.i64.wrap (IntKind.u64.wrap ((if (b.1.natAbs : Int) < (b.2.natAbs : Int) then (b.2.natAbs : Int) else (b.1.natAbs : Int)) - 1)) = far b := by
 have h1 := hb.1; have h2 := hb.2
 unfold is64 at h1 h2
 unfold far imax
 rw [wrap_s, wrap_u]
 (repeat' split) <;> omega
theorem far_rng {b : Rng} (hb : ok64 b) (h : ¬ (b.1 = 0 ∧ b.2 = 0)) : 0 ≤ far b ∧ far b ≤ 9223372036854775807 := by
 have h1 := hb.1; have h2 := hb.2
 unfold is64 at h1 h2
 unfold far imax
 (repeat' split) <;> omega
theorem div_fits {a b : Rng} (na : a.1 ≤ a.2) (ha : ok64 a) (hno : ¬ (a.1 = m64 ∧ b.1 ≤ -1 ∧ -1 ≤ b.2)) {x y : Int} (hx : x = a.1 ∨ x = a.2) (hy : b.1 ≤ y ∧ y ≤ b.2) : fitD x y = true := by
 have h1 := ha.1
 unfold is64 at h1
 unfold fitD m64 at *
 simp only [ne_eq, Bool.or_eq_true, decide_eq_true_eq]
 omega
end Go.Proofs.YtjnpcfpecilejaaGreatDoor
