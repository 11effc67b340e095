/- What the printer holds for shaped is what the document does. No conditions but bounds. -/
import Derived.Test.YtbconpmnckokoaaGreatDoorZe
import Derived.Test.YtbconpmnckokoaaGreatDoorZd
import Derived.Test.YtbconpmnckokoaaGreatDoorZb
import Derived.Sort.Grow
import Derived.Test.YtbconpmnckokoaaGreatDoorZc
import Derived.Laws.CopyRow
set_option linter.unusedVariables false
set_option linter.unusedSimpArgs false
set_option linter.unusedSectionVars false
namespace Go.Proofs.YtbconpmnckokoaaGreatDoor
section
open Go.Proofs.Tryz
theorem eb {α:Type} {P:α→Prop} {c:Prop} [Decidable c] {a b:α} (h1:c→P a) (h2:¬c→P b):P (if c then a else b):=by
 split
 ·exact h1 (by assumption)
 ·exact h2 (by assumption)
theorem qS {P:GS→Prop} (s:GS) (x:aD) (h1:∀e,P (cu s e)) (h2:∀v,P (stI s x.dst v)) (h3:∀v,P (stB s x.dst v)) (h4:∀v,P (stA s x.dst v)) (h5:∀a b c,P (stA (stB (stI s x.dst a) x.dst b) x.dst c)) (h6:∀A,P { s with arrays:=A })
  (h7:∀A v,P (stA { s with arrays:=A } x.dst v)) (h8:∀t,P { s with trace:=t }):P (doG s x):=by
 unfold doG
 refine eb (P:=P) (fun _=>h2 _) fun _=>eb (P:=P) (fun _=>h5 _ _ _) fun _=>eb (P:=P) (fun _=>h2 _) fun _=>eb (P:=P) (fun _=>h2 _) fun _=>eb (P:=P) (fun _=>h2 _) fun _=>
  eb (P:=P) (fun _=>eb (P:=P) (fun _=>h1 _) fun _=>h2 _) fun _=>eb (P:=P) (fun _=>eb (P:=P) (fun _=>h1 _) fun _=>h2 _) fun _=>eb (P:=P) (fun _=>h3 _) fun _=>eb (P:=P) (fun _=>h3 _) fun _=>eb (P:=P) (fun _=>h3 _) fun _=>
  eb (P:=P) (fun _=>h3 _) fun _=>eb (P:=P) (fun _=>h3 _) fun _=>eb (P:=P) (fun _=>eb (P:=P) (fun _=>h1 _) fun _=>h2 _) fun _=>eb (P:=P) (fun _=>eb (P:=P) (fun _=>h2 _) fun _=>h1 _) fun _=>eb (P:=P) (fun _=>eb (P:=P) (fun _=>h6 _) fun _=>h1 _) fun _=>
  eb (P:=P) (fun _=>eb (P:=P) (fun _=>h1 _) fun _=>eb (P:=P) (fun _=>h1 _) fun _=>h7 _ _) fun _=>eb (P:=P) (fun _=>h4 _) fun _=>eb (P:=P) (fun _=>h1 _) fun _=>h8 _
theorem zK (s:GS) (x:aD):(bi s x).st=s.st:=by
 unfold bi
 split
 ·split<;>rfl
 ·exact qS (P:=fun t=>t.st=s.st) s x (fun _=>rfl) (fun _=>rfl) (fun _=>rfl) (fun _=>rfl) (fun _ _ _=>rfl) (fun _=>rfl) (fun _ _=>rfl) (fun _=>rfl)
theorem zL (s:GS) (x:aD) (i:Nat):(bi s x).ck i≤s.ck i+1:=by
 unfold bi
 split
 ·split
  ·show (if i=_ then s.ck i+1 else s.ck i)≤_
   split<;>omega
  ·show (if i=_ then s.ck i+1 else s.ck i)≤_
   split<;>omega
 ·exact qS (P:=fun t=>t.ck i≤s.ck i+1) s x (fun _=>Nat.le_succ _) (fun _=>Nat.le_succ _) (fun _=>Nat.le_succ _) (fun _=>Nat.le_succ _) (fun _ _ _=>Nat.le_succ _) (fun _=>Nat.le_succ _) (fun _ _=>Nat.le_succ _) (fun _=>Nat.le_succ _)
theorem hF (s:GS):∀(l:List cV) (t:GS),(l.foldl (assign s) t).st=t.st∧(l.foldl (assign s) t).ck=t.ck∧(l.foldl (assign s) t).ended=t.ended
 |[],_=>⟨rfl,rfl,rfl⟩
 |p::l,t=>hF s l (assign s t p)
theorem k8 (f:ai) (s:GS) (dst_:Int):(cC f s dst_).st=s.st∧(cC f s dst_).ck=s.ck:=by
 unfold cC
 split
 ·obtain ⟨h1,h2,_⟩:=hF s (bP f dst_).phis s
  exact ⟨h1,h2⟩
 ·exact ⟨rfl,rfl⟩
theorem m6 (f:ai) (s:GS):(bI f s).st=s.st+1:=by
 unfold bI
 split
 ·rw[zK]
 ·split
  ·rfl
  ·rw[(k8 f _ _).1]
theorem m7 (f:ai) (s:GS) (i:Nat):(bI f s).ck i≤s.ck i+1:=by
 unfold bI
 split
 ·exact zL _ _ i
 ·split
  ·exact Nat.le_succ _
  ·rw[(k8 f _ _).2];exact Nat.le_succ _
theorem mB {f:ai} {s:GS} (h:s.ended=true):∀k,fR f k s=s
 |0=>rfl
 |k+1=>by unfold fR;rw[if_pos h]
def eX (f:ai) (i:pj) (q:pi × Nat):Bool:=decide (lW f q.2=2∧(q.1.arr < -1∨(i.arrays.length:Int)≤q.1.arr))
def eY (f:ai) (i:pj):Int:=if ¬i.args.length=f.params.length then 1 else if i.args.zipIdx.any (eX f i)=true then 1 else if 32<i.arrays.length then 4 else if i.arrays.any (fun r=>decide (64<r.length))=true then 4 else 0
def iG (a b:GS):Bool:=decide (a.en=b.en∧a.val=b.val∧a.tr=b.tr∧a.trace=b.trace)
def Co (i:pj):Prop:=(∀a∈i.args,bT a.int)∧∀r∈i.arrays,∀x∈r,bT x
theorem oo {α β:Type} {g:Nat→α→β} {d:β} {n:Nat} {l:List α} {x:β} (h:x∈cD g d n l):(∃j a,l[j]?=some a∧x=g j a)∨x=d:=by
 unfold cD at h
 rcases List.mem_append.1 h with h|h
 ·obtain ⟨⟨a,j⟩,hm,rfl⟩:=List.mem_map.1 h
  exact .inl ⟨j,a,List.mk_mem_zipIdx_iff_getElem?.1 hm,rfl⟩
 ·exact .inr (List.mem_replicate.1 h).2
theorem bq.beg {f:ai} {i:pj} (hR:ma f) (hp:f.params.length≤f.vars.length) (ht:∀j,0≤lW f j∧lW f j≤2) (h:eY f i=0) (h64:Co i):bq f (g9 f i)∧i.args.length≤f.vars.length:=by
 unfold eY at h
 split at h
 ·cases h
 rename_i h1
 split at h
 ·cases h
 rename_i h2
 split at h
 ·cases h
 rename_i h3
 split at h
 ·cases h
 rename_i h4
 have h1:i.args.length=f.params.length:=Classical.not_not.1 h1
 have hr:∀r∈i.arrays,r.length≤64:=fun r hr=>by
  refine Classical.byContradiction fun hn=>h4 (List.any_eq_true.2 ⟨r,hr,qx (by omega)⟩)
 have hl:i.args.length≤f.vars.length:=by omega
 have hf:∀{β:Type} (g:Nat→pi→β) (d:β),(cD g d f.vars.length i.args).length=f.vars.length:=fun g d=>by unfold cD;simp;omega
 refine ⟨⟨hf _ _,hf _ _,hf _ _,fun x hx=>?_,fun x hx=>?_,by show i.arrays.length≤40;omega,fun r h=>Nat.le_trans (hr r h) (by omega),h64.2,qr _,Int.le_refl _,by show (0:Int)<f.blocks.length;have:=hR.pos;omega,qr _⟩,hl⟩
 ·rcases oo hx with ⟨j,a,ha,rfl⟩|rfl
  ·unfold l8;split
   ·exact h64.1 a (qv ha)
   ·exact ⟨by decide,by decide⟩
  ·exact ⟨by decide,by decide⟩
 ·show _∧_<(i.arrays.length:Int)
  rcases oo hx with ⟨j,a,ha,rfl⟩|rfl
  ·unfold k7
   split
   ·exact ⟨by omega,by omega⟩
   split
   ·exact ⟨by omega,by omega⟩
   have:=ht j
   have hb:¬eX f i (a,j)=true:=fun hb=>h2 (List.any_eq_true.2 ⟨(a,j),qv (i:=j) (by rw[List.getElem?_zipIdx,ha];simp),hb⟩)
   unfold eX at hb
   simp only[decide_eq_true_eq] at hb
   have h2':lW f j=2:=by omega
   omega
  ·exact ⟨by omega,by omega⟩
end
section
open Go.Proofs.Tryz
open Go.Proofs Go.Lib
theorem k9 {f:ai} (h:b5 f) (h64:∀b∈f.blocks,∀x∈b.insts,bT x.num):ma f:=by
 have h1:=h.1
 unfold jK at h1
 simp only[Bool.or_eq_false_iff,decide_eq_false_iff_not] at h1
 obtain ⟨_,_,_,_,_,h6⟩:=h
 exact ⟨by omega,fun b hb=>(h6 b hb).1,fun b hb x hx=>⟨m3 ((h6 b hb).2.1 x hx),h64 b hb x hx⟩,fun b hb=>(h6 b hb).2.2⟩
theorem f8 {f:ai} (h:b5 f):f.params.length≤f.vars.length:=by
 have h1:=h.1
 unfold jK at h1
 simp only[Bool.or_eq_false_iff,decide_eq_false_iff_not] at h1
 omega
theorem lc {f:ai} (h:b5 f) (j:Nat):0≤lW f j∧lW f j≤2:=by
 obtain ⟨_,_,h3,_⟩:=h
 unfold lW
 by_cases hj:j<f.vars.length
 ·rw[qo hj];exact ⟨(h3 j hj).2.1,(h3 j hj).2.2.1⟩
 ·rw[List.getElem?_eq_none (by omega)];exact ⟨by decide,by decide⟩
end
section
open Go.Proofs.Tryz
def cI (l:List Int):List AV:=l.map (AV.int .i64)
def cB (l:List Bool):List AV:=l.map AV.bool
theorem aO (l:List Int):(cI l).length=l.length:=by simp[cI]
theorem bE (l:List Bool):(cB l).length=l.length:=by simp[cB]
theorem qT (l:List Int):(l.map fun x=>[AV.int .i64 x]).flatten=cI l:=by
 induction l with
 |nil=>rfl
 |cons x l ih=>simp only[List.map_cons,List.flatten_cons,ih];rfl
theorem br (l:List Int):(cI l).all AV.cell=true:=by
 unfold cI;rw[List.all_map];exact List.all_eq_true.2 fun _ _=>rfl
theorem cJ (l:List Bool):(cB l).all AV.cell=true:=by
 unfold cB;rw[List.all_map];exact List.all_eq_true.2 fun _ _=>rfl
theorem wq (l m:List Int):cI l++cI m=cI (l++m):=by simp[cI]
theorem Cq (l:List Int) (j:Nat) (v:Int):(cI l).set j (.int .i64 v)=cI (l.set j v):=by unfold cI;rw[List.map_set]
theorem Cr (l:List Bool) (j:Nat) (v:Bool):(cB l).set j (.bool v)=cB (l.set j v):=by unfold cB;rw[List.map_set]
theorem zM {l:List Int} {j:Nat} {v:Int} (h:l[j]?=some v):(cI l).drop j=.int .i64 v::(cI l).drop (j+1):=by
 obtain ⟨hj,e⟩:=List.getElem?_eq_some_iff.1 h
 rw[List.drop_eq_getElem_cons (by rw[aO];exact hj)]
 unfold cI
 rw[List.getElem_map,e]
theorem zN {l:List Bool} {j:Nat} {v:Bool} (h:l[j]?=some v):(cB l).drop j=.bool v::(cB l).drop (j+1):=by
 obtain ⟨hj,e⟩:=List.getElem?_eq_some_iff.1 h
 rw[List.drop_eq_getElem_cons (by rw[bE];exact hj)]
 unfold cB
 rw[List.getElem_map,e]
theorem Cs (n:Nat) (v:Int):List.replicate n (AV.int .i64 v)=cI (List.replicate n v):=by simp[cI]
theorem Ct (n:Nat) (v:Bool):List.replicate n (AV.bool v)=cB (List.replicate n v):=by simp[cB]
section
variable {E:World} {P:Program} {ops:Array Oper} {K:aH→OL→Prop} {env:aH} {O O' O'':OL} {rest:List Oper} {n:Nat}
variable {d ty:Nat} {pos:String} {af:Array Edge} {x y z:Operand} {t u e:TypeId}
theorem Gv.idxI {i n j:Nat} {a:Int} {T:TypeId} {cs:List AV} (ht:P.underlying t=some (.slice e)) (hs:∀w,(sizeOf e).run P w=.ok 1 w) (hx:aU env x=.own i n) (hy:aU env y=.int .i64 a) (hi:a=(j:Int)) (hO:mV O i (.grow 1 T cs)) (hn:cs.length=n) (hj:j<n) :
  Gv P env O (Oper.mk (some d) (.indexAddr t x y) ty pos af none) (.po i j):=
 Gv.idxOL ht hs hx hy hi hO (fun e=>by rw[e] at hn;simp at hn;omega) hj (Nat.mul_one j)
theorem Gv.loadI {i j:Nat} {T:TypeId} {l:List Int} {v:Int} (ha:∀w,(isAgg t).run P w=.ok false w) (hx:aU env x=.po i j) (hO:mV O i (.grow 1 T (cI l))) (hv:l[j]?=some v) :
  Gv P env O (Oper.mk (some d) (.load t x) ty pos af none) (.int .i64 v):=Gv.load1G ha hx hO (zM hv)
theorem Gv.loadB {i j:Nat} {T:TypeId} {l:List Bool} {v:Bool} (ha:∀w,(isAgg t).run P w=.ok false w) (hx:aU env x=.po i j) (hO:mV O i (.grow 1 T (cB l))) (hv:l[j]?=some v) :
  Gv P env O (Oper.mk (some d) (.load t x) ty pos af none) (.bool v):=Gv.load1G ha hx hO (zN hv)
theorem eh.cast {i k:Nat} {T:TypeId} {o:aW} {cs ds:List AV} (h:eh O i o (.grow k T cs) O') (e:cs=ds):eh O i o (.grow k T ds) O':=e▸h
theorem ak.storeI {i j:Nat} {T:TypeId} {l:List Int} {v:Int} (hs:∀w,(sizeOf t).run P w=.ok 1 w) (hx:aU env x=.po i j) (hy:aU env y=.int .i64 v) (hO:eh O i (.grow 1 T (cI l)) (.grow 1 T (cI (l.set j v))) O') (hb:j<l.length)
  (kk:ak P E ops K rest env O'):ak P E ops K (Oper.mk none (.store t x y) ty pos af none::rest) env O:=
 ak.storeG1 (cs:=cI l) hs hx hy rfl rfl rfl (hO.cast (Cq l j v).symm) (by rw[aO];exact hb) kk
theorem ak.storeB {i j:Nat} {T:TypeId} {l:List Bool} {v:Bool} (hs:∀w,(sizeOf t).run P w=.ok 1 w) (hx:aU env x=.po i j) (hy:aU env y=.bool v) (hO:eh O i (.grow 1 T (cB l)) (.grow 1 T (cB (l.set j v))) O') (hb:j<l.length)
  (kk:ak P E ops K rest env O'):ak P E ops K (Oper.mk none (.store t x y) ty pos af none::rest) env O:=
 ak.storeG1 (cs:=cB l) hs hx hy rfl rfl rfl (hO.cast (Cr l j v).symm) (by rw[bE];exact hb) kk
theorem ak.makeI {i:TypeInfo} {zv:Value} {m:Nat} {k1 k2:IntKind} {l l':Int} (ht:P.underlying t=some (.slice e)) (hi:P.info? e=some i) (hz:i.zero=some zv) (hzc:zv.cells=#[.int .i64 0]) (hk:i.size=1) (hx:aU env x=.int k1 l) (hy:aU env y=.int k2 l')
  (hl:l=(m:Int)) (hl':l'=(m:Int)) (hb:(i.bytes:Int)*(m:Int)≤281474976710656) (hm:m≤281474976710656) (kk:∀j,ak P E ops K rest (bz env d (.own j m)) ((j,.grow 1 e (cI (List.replicate m 0)))::O)) :
  ak P E ops K (Oper.mk (some d) (.makeSlice t x y) ty pos af none::rest) env O:=
 ak.make1 ht hi hz hzc hk hx hy hl hl' hb hm rfl fun j=>by rw[show lit (.int .i64 0)=AV.int .i64 0 from rfl,Cs];exact kk j
theorem ak.makeB {i:TypeInfo} {zv:Value} {m:Nat} {k1 k2:IntKind} {l l':Int} (ht:P.underlying t=some (.slice e)) (hi:P.info? e=some i) (hz:i.zero=some zv) (hzc:zv.cells=#[.bool false]) (hk:i.size=1) (hx:aU env x=.int k1 l) (hy:aU env y=.int k2 l')
  (hl:l=(m:Int)) (hl':l'=(m:Int)) (hb:(i.bytes:Int)*(m:Int)≤281474976710656) (hm:m≤281474976710656) (kk:∀j,ak P E ops K rest (bz env d (.own j m)) ((j,.grow 1 e (cB (List.replicate m false)))::O)) :
  ak P E ops K (Oper.mk (some d) (.makeSlice t x y) ty pos af none::rest) env O:=
 ak.make1 ht hi hz hzc hk hx hy hl hl' hb hm rfl fun j=>by rw[show lit (.bool false)=AV.bool false from rfl,Ct];exact kk j
end
structure zO (α:Type) where
 k:Nat
 val:α→List Value
 pos:0<k
 len:∀x,(val x).length=k
 one:∀x,∀u∈val x,u.oneCell'=true
variable {α:Type}
def zO.vs (c:zO α) (l:List α):List Value:=l.flatMap c.val
theorem zO.vs_len (c:zO α) (l:List α):(c.vs l).length=l.length*c.k:=by
 unfold zO.vs
 induction l with
 |nil=>simp
 |cons x l ih=>rw[List.flatMap_cons,qu,ih,c.len,List.length_cons,Nat.add_mul];omega
def eI:zO Int:=⟨1,fun x=>[.int .i64 x],by decide,fun _=>rfl,fun x u hu=>by simp at hu;subst hu;rfl⟩
section
variable {E:World} {P:Program} {ops:Array Oper} {K:aH→OL→Prop} {env:aH} {O O' O'':OL} {rest:List Oper} {n:Nat}
variable {d ty:Nat} {pos:String} {af:Array Edge} {x y z:Operand} {t u e T:TypeId}
theorem SL.freezeAllN:∀{A:List (Nat × Obj)} {I:aJ} {F:List (Nat × Obj)} {E w:World},SL I (A++F) E w→∃J,I.le J∧SL J F E w∧∀x∈A,J x.1=some x.2
 |[],I,F,E,w,h=>⟨I,.refl _,h,fun _ h=>by cases h⟩
 |(b,o)::A,I,F,E,w,h=>by
  obtain ⟨h1,h2⟩:=SL.freeze (show SL I ((b,o)::(A++F)) E w from h)
  obtain ⟨J,h3,h4,h5⟩:=SL.freezeAllN h2
  refine ⟨J,h1.trans h3,h4,fun x hx=>?_⟩
  rcases List.mem_cons.1 hx with rfl|hx
  ·exact h3 _ _ (aJ.put_same _ _ _)
  ·exact h5 x hx
end
end
section
open Go.Proofs.Tryz
section
variable {E:World} {P:Program} {ops:Array Oper} {K:aH→OL→Prop} {env:aH} {O O' O'':OL} {rest:List Oper} {n:Nat}
variable {d ty:Nat} {pos:String} {af:Array Edge} {x y z:Operand} {t u e:TypeId}
end
end
section
open Go.Proofs.Tryz
open Go.Proofs
variable {E:World}
set_option maxRecDepth 20000
theorem jM {p:Int→Bool} {fn:FuncId} {c:List AV} (xs:List Int) (hl:xs.length≤281474976710656) (hp:∀x∈xs,aV prog E fn ([.int .i64 x]++c) (.bool (p x))) :
  aV prog E 79 [.fro 1 (xs.map bS),.fn fn [] c] (.int .i64 (cR p xs 0)):=by
 refine zr func79 Z (by decide) Z<|ao<|ax Z<|z6<|zb<|ao<|z8 (eR Z)<|aj j6 Z<|aa Z<|z6<|zk<|yd (γ:=Nat) [0,1,7] (fun k=>[(8,.int .i64 k)]) (fun k=>[]) (fun k=>k≤xs.length∧(xs.take k).all (fun x=>!p x)) (fun k=>xs.length - k) 0 aY aS (⟨qr _,Z⟩) ?_
 rintro k ⟨hk,hall⟩
 refine ao<|ay Z Z<|z6<|zb<|zp Z (fun ck=>?_) (fun ck=>?_)
 ·have hk2:k<xs.length:=by omega
  refine zg<|zb<|zk<|ao<|aa Z<|ax Z<|z6<|ao<|z8 (yh (v:=.fn _ _ _) Z)<|z8 (eR Z)<|aa Z<|z8 (q8 j6 j7 Z Z Z (qo (by omega)))<|aN je Z<|ak.callVP Z (hp _ (qs hk2)) Z<|z6<|zw Z (fun cp=>?_) (fun cp=>?_)
  ·refine ao<|aa Z<|ax Z<|z6<|ze<|zi (x:=.int _ _) Z ?_
   rw[bZ p xs k hk hall,List.drop_eq_getElem_cons hk2,cR,if_pos cp]
  ·refine zg<|bj<|aF Z Z<|aa Z<|z6 ?_
   exact ⟨k+1,gB,aY,aS,⟨hk2,by rw[qp hk2,List.all_append,hall];simp[cp]⟩,by omega⟩
 ·have hkn:k=xs.length:=by omega
  refine yc<|ao<|ax Z<|z6<|ze<|zi (x:=.int _ _) Z ?_
  rw[bZ p xs k hk hall,hkn,List.drop_length,cR]
theorem gH {p:Int→Bool} {fn:FuncId} {c:List AV} (xs:List Int) (hl:xs.length≤281474976710656) (hp:∀x∈xs,aV prog E fn ([.int .i64 x]++c) (.bool (p x))) :
  aV prog E 59 [.fro 1 (xs.map bS),.fn fn [] c] (.bool (xs.any p)):=by
 refine zr func59 Z (by decide) Z<|ao<|ab Z<|z6<|ao<|z8 (eR Z)<|z8 (yh (v:=.fn _ _ _) Z)<|zh (jM xs hl hp) Z<|z8 (qg Z Z)<|ab Z<|z6<|ze<|zi (x:=.bool _) Z ?_
 rw[fa]
def bp (f:ai) (v:Int):Int:=((f.vars[v.toNat]?).map (·.ty)).getD 0
theorem oq {f:ai} {v:Int} (h:bn f v=true):∃x,f.vars[v.toNat]?=some x∧v=(v.toNat:Int)∧bp f v=x.ty:=by
 unfold bn at h
 simp only[qz,decide_eq_true_eq] at h
 have hl:v.toNat<f.vars.length:=by omega
 refine ⟨f.vars[v.toNat],qo hl,by omega,?_⟩
 unfold bp;rw[qo hl];rfl
theorem dv (f:ai) (v:Int) (hv:bn f v=true):aV prog E 61 [.agg (bW f),.int .i64 v] (.int .i64 (bp f v)):=by
 obtain ⟨x,hx,hv2,hk⟩:=oq hv
 rw[hk]
 refine zr func61 Z (by decide) Z<|ao<|yf (cs:=_) Z Z Z<|ax Z<|z6<|ao<|aw jj Z Y4 Z Z<|aT Yb Z<|aa Z<|z8 (dj v.toNat Z5 Zx Z Z hv2 hx)<|aw Zi Z sizeOf71 Z Z<|aN isAgg71 Z<|ax Z<|z6<|ze<|zi (x:=.int _ _) Z ?_
 rfl
theorem ws (op:Int):aV prog E 62 [.int .i64 op] (.bool (decide (op=1))):=by
 refine zr func62 Z (by decide) Z<|ao<|ab Z<|z6<|ao<|aa Z<|az Z Z<|ab Z<|z6<|ze<|zi (x:=.bool _) Z ?_
 simp_all
theorem wt:∀{l:List Int} (h:0<l.length),l.headD 0=l[0]
 |[],h=>absurd h (Nat.lt_irrefl 0)
 |_::_,_=>rfl
def fK (f:ai) (x:aD):Bool:=if x.op=1 then decide (bp f x.dst=bp f (x.args.headD 0)) else decide (x.args.map (bp f)=bg x.op)&&(!cQ x.op||decide (bp f x.dst=gG x.op))
theorem eZ {f:ai} {xs ts:List Int} {k:Nat} (h1:k<xs.length) (h2:k<ts.length) (h:(xs.take k).map (bp f)=ts.take k) (hk:bp f xs[k]=ts[k]):(xs.take (k+1)).map (bp f)=ts.take (k+1):=by
 rw[qp h1,qp h2,List.map_append,h,List.map_cons,List.map_nil,hk]
theorem wu {f:ai} {xs ts:List Int} {k:Nat} (h1:k<xs.length) (h2:k<ts.length) (hk:¬bp f xs[k]=ts[k]):¬xs.map (bp f)=ts:=by
 intro e
 apply hk
 subst e
 rw[List.getElem_map]
theorem pk (f:ai) (x:aD) (ha:x.args.all (bn f)=true) (hl:x.args.length=(bg x.op).length) (hd:cQ x.op=true→bn f x.dst=true) :
  aV prog E 36 [.agg (bW f),.agg (bf x)] (.bool (fK f x)):=by
 have hlen:(bg x.op).length≤3:=by
  rcases kL x.op with h|h
  ·unfold bg;rw[h];decide
  ·have:∀r∈ec,r.2.1.data.toList.length≤3:=by decide
   have:=this _ h
   unfold bg;simpa using this
 refine zr func36 Z (by decide) Z<|ao<|yf (cs:=_) Z Z Z<|yf (cs:=_) Z Z Z<|ab Z<|z6<|zb<|ao<|aw jd Z Z7 Z Z<|aN Zh Z<|zh (ws _) Z<|z6<|zp Z (fun c1=>?_) (fun c1=>?_)
 ·have e1:x.op=1:=by simpa using c1
  have hlz:0<x.args.length:=by rw[hl,e1];decide
  have hv0:bn f x.args[0]=true:=List.all_eq_true.1 ha _ (qs hlz)
  have hvd:bn f x.dst=true:=hd (by rw[e1];decide)
  refine zb<|zo (fun j=>false) (by kernel_rfl) Z (zq (.rest _))<|ad 0 Z (yu jq jl Z Z)<|ad 1 Z (dV jd Z j7 Z Z)<|ad 2 Z (d8 je Z)<|ad 4 Z (yu jq jl Z Z)<|ad 5 Z (dV jd Z jn Z Z)<|ad 6 Z (jH js Z)<|ad 7 Z (dj 0 j6 j7 Z Z Z (qo hlz))<|ad 8 Z (d8 je Z)<|bl 3 Z<|zh (dv _ _ (by assumption)) Z<|z6<|bl 9 Z<|zh (dv _ _ (by assumption)) Z<|z6<|ad 10 Z (Gv.eqlI Z Z)<|ad 11 Z (uQ Z)<|dU<|ze<|zi (x:=.bool _) Z ?_
  exact jb (by unfold fK;rw[if_pos e1,wt hlz])
 ·have e1:¬x.op=1:=by simpa using c1
  refine zg<|zb<|ao<|aw jd Z Z7 Z Z<|aN Zh Z<|zh (kN _) Z<|aj underlying119 Z<|aa Z<|z6<|zk<|yd (γ:=Nat) [2,3,25,26] (fun k=>[(27,.int .i64 k)]) (fun k=>[]) (fun k=>k≤(bg x.op).length∧(x.args.take k).map (bp f)=(bg x.op).take k) (fun k=>(bg x.op).length - k) 0 aY aS (⟨qr _,Z⟩) ?_
  rintro k ⟨hk,hall⟩
  refine ao<|ay Z Z<|z6<|zb<|zp Z (fun ck=>?_) (fun ck=>?_)
  ·have hk2:k<(bg x.op).length:=by simp at ck;omega
   have hk3:k<x.args.length:=by omega
   have hvk:bn f x.args[k]=true:=List.all_eq_true.1 ha _ (qs hk3)
   refine zg<|zb<|zk<|ao<|aa Z<|z8 (dj k underlying119 sizeOf71 Z Z Z (qo hk2))<|aN isAgg71 Z<|ax Z<|ax Z<|z6<|zb<|zo (fun j=>false) (by kernel_rfl) Z (zq (.rest _))<|ad 0 Z (yu jq jl Z Z)<|ad 1 Z (dV jd Z jn Z Z)<|ad 2 Z (jH js Z)<|ad 3 Z (cG Z)<|ad 4 Z (dj k j6 j7 Z Z Z (qo hk3))<|ad 5 Z (d8 je Z)<|ad 7 Z (cG Z)<|bl 6 Z<|zh (dv _ _ (by assumption)) Z<|z6<|ad 8 Z (yl Z Z)<|dU<|zw Z (fun cn=>?_) (fun cn=>?_)
   ·refine ao<|ab Z<|z6<|ze<|zi (x:=.bool _) Z ?_
    exact jb (by unfold fK;rw[if_neg e1,qy (wu hk3 hk2 (by simpa using cn))];rfl)
   ·refine zg<|bj<|aF Z Z<|aa Z<|z6 ?_
    exact ⟨k+1,f0,aY,aS,⟨hk2,eZ hk3 hk2 hall (by simpa using cn)⟩,by omega⟩
  ·have hkn:k=(bg x.op).length:=by simp at ck;omega
   subst hkn
   rw[qt,←hl,qt] at hall
   refine yc<|ao<|aw jd Z Z7 Z Z<|aN Zh Z<|zh (kO _) Z<|z8 (Eo Z)<|z8 (BT Z Z)<|z8 (BU Z Z)<|ax Z<|ab Z<|z6<|ao<|ah Z<|aE Z<|ah Z<|zm (s:=50) Z (fun c1=>?_) (fun c1=>?_)
   ·refine z2 Z Z c1<|z2 Z Z c1<|z2 Z Z c1<|z2 Z Z c1<|z2 Z Z c1<|z2 Z Z c1<|ap Z c1 Z<|ab Z<|z6<|ze<|zi (x:=.bool _) Z ?_
    exact jb (by unfold fK;rw[if_neg e1,qx hall];simp_all)
   ·refine z7 Z Z c1<|ac jq jl Z Z<|z7 Z Z c1<|aw jd Z j7 Z Z<|z7 Z Z c1<|aN je Z<|z7 Z Z c1<|zh (dv f x.dst (hd (by simp_all))) Z<|z7 Z Z c1<|aa Z<|z7 Z Z c1<|az Z Z<|aq Z c1 Z<|ab Z<|z6<|ze<|zi (x:=.bool _) Z ?_
    exact jb (by unfold fK;rw[if_neg e1,qx hall];simp_all)
def m8 (f:ai) (p:cV):Bool:=!(p.args.any fun v=>!decide (bp f v=bp f p.dst))
theorem pm (f:ai) (p:cV) (v:Int) (hv:bn f v=true) (hd:bn f p.dst=true):aV prog E 60 ([.int .i64 v]++[.pf (bW f),.pf (bD p)]) (.bool (!decide (bp f v=bp f p.dst))):=by
 refine zr func60 Z (by decide) Z<|ao<|ab Z<|z6<|zb<|zo (fun j=>false) (by kernel_rfl) Z (zq (.rest _))<|ad 0 Z (yu jq jl Z Z)<|ad 1 Z (cG Z)<|ad 3 Z (yu jq jl Z Z)<|ad 4 Z (dV jr Z j7 Z Z)<|ad 5 Z (d8 je Z)<|bl 2 Z<|zh (dv _ _ (by assumption)) Z<|z6<|bl 6 Z<|zh (dv _ _ (by assumption)) Z<|z6<|ad 7 Z (yl Z Z)<|ad 8 Z (uQ Z)<|dU<|ze<|zi (x:=.bool _) Z ?_
 simp_all
theorem vb (f:ai) (p:cV) (hp:qI p) (ha:p.args.all (bn f)=true) (hd:bn f p.dst=true):aV prog E 35 [.agg (bW f),.agg (bD p)] (.bool (m8 f p)):=by
 have hl1:=hp.1.lt
 refine zr func35 Z (by decide) Z<|ao<|yf (cs:=_) Z Z Z<|yf (cs:=_) Z Z Z<|ab Z<|z6<|ao<|aw jr Z jn Z Z<|aT js Z<|z8 (Gv.func Z Z)<|zh (gH p.args (by omega) (fun v hv=>pm f p v (List.all_eq_true.1 ha v hv) hd)) Z<|aE Z<|ab Z<|z6<|ze<|zi (x:=.bool _) Z ?_
 rfl
def cM (f:ai) (t:fH):Bool:=if t.kind=0 then !decide (t.to0=0) else if t.kind=1 then decide (bp f t.var=1)&&!decide (t.to0=0)&&!decide (t.to1=0) else decide (bp f t.var=0)
theorem pn (f:ai) (t:fH) (h:¬t.kind=0→bn f t.var=true):aV prog E 37 [.agg (bW f),.agg (mW t)] (.bool (cM f t)):=by
 refine zr func37 Z (by decide) Z<|ao<|yf (cs:=_) Z Z Z<|yf (cs:=_) Z Z Z<|ab Z<|z6<|zb<|ao<|aw ji Z Y3 Z Z<|aN Y9 Z<|z6<|zk<|ao<|az Z Z<|ab Z<|z6<|zw Z (fun c2=>?_) (fun c2=>?_)
 ·refine ao<|aw ji Z Z4 Z Z<|z8 (yz (j:=0) jx j7 Z Z Z (by decide) Z)<|aN je Z<|z8 (yl Z Z)<|ab Z<|z6<|ze<|zi (x:=.bool _) Z ?_
  exact jb (by unfold cM;simp_all)
 ·refine ao<|az Z Z<|ab Z<|z6<|zw Z (fun c3=>?_) (fun c3=>?_)
  ·refine ao<|ac jq jl Z Z<|aw ji Z j7 Z Z<|aN je Z<|zh (dv f t.var (h (by simp_all))) Z<|az Z Z<|ah Z<|zm (s:=20) Z (fun c4=>?_) (fun c4=>?_)
   ·refine z7 Z Z c4<|aw ji Z Z4 Z Z<|z7 Z Z c4<|z8 (yz (j:=0) jx j7 Z Z Z (by decide) Z)<|z7 Z Z c4<|aN je Z<|z7 Z Z c4<|z8 (yl Z Z)<|ap Z c4 Z<|ah Z<|zm (s:=26) Z (fun c5=>?_) (fun c5=>?_)
    ·refine z7 Z Z c5<|aw ji Z Z4 Z Z<|z7 Z Z c5<|z8 (yz (j:=1) jx j7 Z Z Z (by decide) Z)<|z7 Z Z c5<|aN je Z<|z7 Z Z c5<|z8 (yl Z Z)<|ap Z c5 Z<|ab Z<|z6<|ze<|zi (x:=.bool _) Z ?_
     exact jb (by unfold cM;simp_all)
    ·refine z2 Z Z c5<|z2 Z Z c5<|z2 Z Z c5<|z2 Z Z c5<|aq Z c5 Z<|ab Z<|z6<|ze<|zi (x:=.bool _) Z ?_
     exact jb (by unfold cM;simp_all)
   ·refine z2 Z Z c4<|z2 Z Z c4<|z2 Z Z c4<|z2 Z Z c4<|aq Z c4 Z<|ah Z<|z2 Z Z Z<|z2 Z Z Z<|z2 Z Z Z<|z2 Z Z Z<|aq Z Z Z<|ab Z<|z6<|ze<|zi (x:=.bool _) Z ?_
    exact jb (by unfold cM;simp_all)
  ·refine zg<|ao<|ac jq jl Z Z<|aw ji Z j7 Z Z<|aN je Z<|zh (dv f t.var (h (by simp_all))) Z<|az Z Z<|ab Z<|z6<|ze<|zi (x:=.bool _) Z ?_
   exact jb (by unfold cM;simp_all)
end
section
open Go.Proofs.Tryz
open Go.Proofs
theorem Cu:dc prog 23 3 1 1 [.int .i64 0]:=⟨_,j6,j7,zeroValue3,by decide,by decide,by kernel_rfl⟩
variable {E:World}
set_option maxRecDepth 20000
end
section
open Go.Proofs.Tryz
open Go.Sort (Holds putRow putCells onCells)
end
section
open Go.Proofs.Tryz
variable {α:Type}
section
variable {E:World} {P:Program} {ops:Array Oper} {K:aH→OL→Prop} {env:aH} {O O' O'':OL} {rest:List Oper} {n:Nat}
variable {d ty:Nat} {pos:String} {af:Array Edge} {x y z:Operand} {t u e T:TypeId}
end
end
section
open Go.Proofs.Tryz
open Go.Proofs
variable {E:World}
set_option maxRecDepth 20000
end
section
open Go.Proofs.Tryz
section
variable {E:World} {P:Program} {n:Nat} {l:List Oper} {W:Nat→Bool} {Q:aH→OL→Prop} {fuel:Nat} {listed:Array Bool} {env:aH} {O Os Om:OL}
end
end
section
open Go.Proofs.Tryz
section
variable {E:World} {P:Program} {ops:Array Oper} {K:aH→OL→Prop} {env:aH} {O O' O'':OL} {rest:List Oper}
variable {d ty:Nat} {pos:String} {af:Array Edge} {x y z:Operand} {t u e T:TypeId}
end
end
section
open Go.Proofs.Tryz
open Go.Proofs
variable {E:World}
set_option maxRecDepth 20000
end
section
open Go.Proofs.Tryz
open Go.Proofs Go.Lib Go.Shelf Go.RowKit
theorem qU:dc prog 145 9 1 1 [.str ⟨#[]⟩]:=⟨_,Zp,Zg,zeroValue9,by decide,by decide,by kernel_rfl⟩
set_option maxRecDepth 20000
variable {E:World}
def ot (s:ByteArray) (l:List ByteArray):Bool:=l.any fun t=>decide (t=s)
theorem qV {s:ByteArray} {l:List ByteArray}:ot s l=true↔s∈l:=by
 unfold ot;rw[List.any_eq_true]
 constructor
 ·rintro ⟨x,hx,h⟩;have h:x=s:=by simpa using h
  exact h▸hx
 ·intro h;exact ⟨s,h,by simp⟩
theorem wv {s t:ByteArray} {l:List ByteArray}:ot s (l++[t])=(ot s l||decide (t=s)):=by unfold ot;rw[List.any_append];simp
def pp (l:List ByteArray):Prop:=∀i (h:i<l.length),cZ l[i]=true∧ot l[i] (l.take i)=false
instance (l:List ByteArray):Decidable (pp l):=by unfold pp;infer_instance
theorem qW {t:ByteArray} {l:List ByteArray} {mt:Int} (ht:mt=if ot t l=true then 1 else 0) (hc:decide (0<mt)=false):ot t l=false:=by
 have hc:=of_decide_eq_false hc
 cases h:ot t l with
 |true=>rw[h] at ht;simp at ht;omega
 |false=>rfl
theorem ww {s t:ByteArray} {l:List ByteArray} {m:Option Int} {mt:Int} (hs:m.getD 0=if ot s l=true then 1 else 0) (ht:mt=if ot t l=true then 1 else 0) (hc:decide (0<mt)=false) :
  (if s=t then some (mt+1) else m).getD 0=if (ot s l||decide (t=s))=true then 1 else 0:=by
 have h:=qW ht hc
 rw[h] at ht
 have ht:mt=0:=by simpa using ht
 by_cases e:s=t
 ·subst e;simp[ht]
 ·rw[if_neg e,hs]
  have e2:¬t=s:=fun h=>e h.symm
  simp[e2]
theorem wx {l:List ByteArray} {k:Nat} (hn:∀i (h:i<l.length),i<k→cZ l[i]=true∧ot l[i] (l.take i)=false) (hk:k<l.length) (h1:cZ l[k]=true) (h2:ot l[k] (l.take k)=false) :
  ∀i (h:i<l.length),i<k+1→cZ l[i]=true∧ot l[i] (l.take i)=false:=fun i h hi=>by
 by_cases e:i=k
 ·subst e;exact ⟨h1,h2⟩
 ·exact hn i h (by omega)
theorem iW (l:List ByteArray) (hl:l.length≤100000000) (hs:∀s∈l,s.size≤140737488355328) (hL:ae E):aV prog E 70 [.fro 1 (l.map l4)] (.bool (decide (pp l))):=by
 refine zr func70 Z (by decide) Z<|ao<|ab Z<|z6<|ao<|ak.makeMap<|fun b6=>z8 (yb (v:=u4 _) Z)<|z6<|zb<|ao<|z8 (eR Z)<|aj Zp Z<|aa Z<|z6<|zk<|yd (γ:=Nat × List (ByteArray × Int)) [3,7,8] (fun g=>[(9,.int .i64 g.1)]) (fun g=>[(0,u0 b6 g.2)]) (fun g=>g.1≤l.length∧(∀i (h:i<l.length),i<g.1→cZ l[i]=true∧ot l[i] (l.take i)=false)∧∀s,(fQ s g.2).getD 0=if ot s (l.take g.1)=true then 1 else 0) (fun g=>l.length - g.1) (0,[]) aY aS (⟨qr _,fun i h h2=>absurd h2 (Nat.not_lt_zero _),fun s=>Z⟩) ?_
 rintro ⟨k,es⟩ ⟨hk,hn,hm⟩
 try dsimp only at *
 refine ao<|ay Z Z<|z6<|zb<|zp Z (fun ck=>?_) (fun ck=>?_)
 ·have hk2:k<l.length:=by omega
  have hmk:=hm l[k]
  have hz:=hs _ (qs hk2)
  refine zg<|zb<|zk<|ao<|z8 (dj k Zp Zg Z Z Z (qo hk2))<|z8 (qi (c:=.str _) Zn Z)<|z8 (yb (v:=.str _) Z)<|z6<|zb<|ao<|z8 (yh (v:=.str _) Z)<|zh (pg _ hz hL) Z<|aE Z<|ah Z<|zm (s:=16) Z (fun c1=>?_) (fun c1=>?_)
  ·refine z2 Z Z c1<|z2 Z Z c1<|z2 Z Z c1<|z2 Z Z c1<|ap Z c1 Z<|z6<|yq Z Z<|ao<|ab Z<|z6<|ze<|zi (x:=.bool _) Z ?_
   exact jb (qy fun h=>by have h:=h k hk2;simp_all).symm
  ·refine z7 Z Z c1<|z8 (yh (v:=u4 _) Z)<|z7 Z Z c1<|z8 (yh (v:=.str _) Z)<|z7 Z Z c1<|z8 (Gv.lookup1S underlying164 Zd zeroValue3 Z Z ⟨_,.head⟩)<|z7 Z Z c1<|z8 (q3 Z Z)<|aq Z c1 Z<|z6<|zw Z (fun c2=>?_) (fun c2=>?_)
   ·refine ao<|ab Z<|z6<|ze<|zi (x:=.bool _) Z ?_
    exact jb (qy fun h=>by have h:=h k hk2;simp_all).symm
   ·refine zg<|bj<|z8 (yh (v:=u4 _) Z)<|z8 (yh (v:=.str _) Z)<|z8 (Gv.lookup1S underlying164 Zd zeroValue3 Z Z ⟨_,.head⟩)<|z8 (Gv.add Z Z (by first|(unfold ft;omega)|(unfold ft;rw[hmk];split<;>omega)))<|ak.mapSet underlying164 Zd Z Z Z .head<|z6<|bj<|z8 (Gv.add Z Z (by first|(unfold ft;omega)|(unfold ft;rw[hmk];split<;>omega)))<|aa Z<|z6 ?_
    exact ⟨(k+1,jL l[k] ((fQ l[k] es).getD 0+1) es),gB,aY,aS,⟨hk2,wx hn hk2 (by simpa using c1) (qW hmk (by assumption)),fun s=>by dsimp only;rw[ol,qp hk2,wv];exact ww (hm s) hmk (by assumption)⟩,by dsimp only;omega⟩
 ·have hkn:k=l.length:=by omega
  refine yc<|ao<|ab Z<|z6<|ze<|zi (x:=.bool _) Z ?_
  exact jb (qx fun i h=>hn i h (by omega)).symm
theorem map_take {α:Type} {g:α→ByteArray} {l:List α} {k:Nat} (h:k<l.length):(l.map g).take (k+1)=(l.map g).take k++[g l[k]]:=by
 rw[qp (by simpa using h)];simp
def cb (f:ai):List ByteArray:=f.vars.map l3.name
def cE (f:ai):List ByteArray:=f.blocks.map aI.name
@[simp] theorem Ez (f:ai):(cb f).length=f.vars.length:=by unfold cb;simp
@[simp] theorem EA (f:ai):(cE f).length=f.blocks.length:=by unfold cE;simp
theorem zP {f:ai} {k:Nat} (h:k<f.vars.length):(cb f).take (k+1)=(cb f).take k++[f.vars[k].name]:=map_take h
theorem zQ {f:ai} {k:Nat} (h:k<f.blocks.length):(cE f).take (k+1)=(cE f).take k++[f.blocks[k].name]:=map_take h
def zR (f:ai):Prop:=∀i (h:i<f.params.length),f.params[i]=(i:Int)
instance (f:ai):Decidable (zR f):=by unfold zR;infer_instance
def zS (f:ai):Prop:=∀i (h:i<f.vars.length),¬fx f.vars[i].ty=⟨#[]⟩
instance (f:ai):Decidable (zS f):=by unfold zS;infer_instance
def gC (f:ai):Prop:=f.vars.length≤512∧f.params.length≤8∧f.params.length≤f.vars.length∧1≤f.blocks.length∧f.blocks.length≤64
instance (f:ai):Decidable (gC f):=by unfold gC;infer_instance
def dP (f:ai):Prop:=zS f∧zR f∧gC f∧pp (cb f)∧pp (cE f)
instance (f:ai):Decidable (dP f):=by unfold dP;infer_instance
theorem ou (f:ai) (h1:f.vars.length≤100000000) (h2:f.blocks.length≤100000000) (hp:f.params.length≤100000000) (hn:gY f) (hL:ae E):aV prog E 51 [.agg (bW f)] (.bool (decide (dP f))):=by
 have hnv:(cb f).length=f.vars.length:=by unfold cb;simp
 have hnb:(cE f).length=f.blocks.length:=by unfold cE;simp
 refine zr func51 Z (by decide) Z<|ao<|yf (cs:=_) Z Z Z<|ab Z<|z6<|ao<|z8 (uR Z)<|z8 (uR Z)<|z6<|e9 (t:=3) (k:=1) (T:=9) Z<|fun i3=>e9 (t:=4) (k:=1) (T:=9) Z<|fun i4=>zb<|ao<|aw jj Z Y4 Z Z<|aT Yb Z<|aj Z5 Z<|aa Z<|z6<|zk<|yd (γ:=Nat × Nat) [1,4,12,13] (fun g=>[(3,.own g.2 g.1),(14,.int .i64 g.1)]) (fun g=>[(i4,.grow 1 9 []),(g.2,.grow 1 9 ((((cb f).take g.1).map l4).flatten))]) (fun g=>g.1≤f.vars.length∧∀i (h:i<f.vars.length),i<g.1→¬fx f.vars[i].ty=⟨#[]⟩) (fun g=>f.vars.length - g.1) (0,i3) dX aS (⟨qr _,fun i h h2=>absurd h2 (Nat.not_lt_zero _)⟩) ?_
 rintro ⟨k,i⟩ ⟨hk,hT⟩
 try dsimp only at *
 refine ao<|ay Z Z<|z6<|zb<|zp Z (fun ck=>?_) (fun ck=>?_)
 ·have hk2:k<f.vars.length:=by simp at ck;omega
  refine zg<|zb<|zk<|ao<|z8 (dj k Z5 Zx Z Z Z (qo hk2))<|ac isAgg73 Zx Z Z<|zz (cs:=[.str ⟨#[]⟩,.int .i64 0]) zeroValue73 Z Z<|fun i6=>zx Zx Z Z Z Z Z Z .head Z<|z6<|ao<|z8 (wd Z)<|z8 (za Zi Z Zg (by decide) Z Z)<|z8 (zd (c:=.str _) Zn Z ⟨_,.head⟩ Z)<|yk (rows:=[[_]]) qU Z Z Z Z Z<|yt (k:=1) Zp type9 Z Z Z Z Z (fun _=>.t2) (by rw[dC (k:=1) (fun _=>rfl),qw];omega) (by decide) Z (by show (_+1)*16≤_;omega) (by show _+1≤_;omega)<|fun i22=>z8 (d6 Z)<|z6<|ao<|z8 (za Zi Z sizeOf71 (by decide) Z Z)<|z8 (zd (c:=.int _ _) isAgg71 Z ⟨_,.head⟩ Z)<|zh (om _) Z<|z8 (yx Z Z)<|z6<|zp Z (fun ct=>?_) (fun ct=>?_)
  ·refine ao<|ab Z<|z6<|ze<|zi (x:=.bool _) Z ?_
   exact jb (qy fun h=>h.1 k hk2 (by simpa using ct)).symm
  ·refine zg<|bj<|aF Z Z<|aa Z<|z6 ?_
   exact ⟨(k+1,i22),f0,dX,⟨_,(.drop (.refl _)),by dsimp only;rw[←ei (enc:=l4) (zP hk2)];rfl⟩,⟨hk2,fun i h h2=>by by_cases e:i=k;(subst e;simpa using ct);exact hT i h (by dsimp only at h2;omega)⟩,by dsimp only;omega⟩
 ·have hkn:k=f.vars.length:=by simp at ck;omega
  subst hkn
  rw[List.take_of_length_le (by omega:(cb f).length≤f.vars.length)]
  have hTys:zS f:=fun i h=>hT i h h
  refine yc<|zb<|ao<|aw jj Z Z6 Z Z<|aT Zk Z<|aj jp Z<|aa Z<|z6<|zk<|yd (γ:=Nat × Nat) [1,3,29,30] (fun g=>[(4,.own g.2 g.1),(31,.int .i64 g.1)]) (fun g=>[(g.2,.grow 1 9 ((((cE f).take g.1).map l4).flatten)),(i,.grow 1 9 (((cb f).map l4).flatten))]) (fun g=>g.1≤f.blocks.length) (fun g=>f.blocks.length - g.1) (0,i4) dX aS (qr _) ?_
  rintro ⟨k,j⟩ hk
  try dsimp only at *
  refine ao<|ay Z Z<|z6<|zb<|zp Z (fun ck=>?_) (fun ck=>?_)
  ·have hk2:k<f.blocks.length:=by simp at ck;omega
   refine zg<|zb<|zk<|ao<|z8 (dj k jp ju Z Z Z (qo hk2))<|ac Y0 ju Z Z<|zz (cs:=[.str ⟨#[]⟩,.raw (.slice none 0 0),.raw (.slice none 0 0),.int .i64 0,.int .i64 0,.int .i64 0,.int .i64 0]) Ze Z Z<|fun i8=>zx ju Z Z Z Z Z Z .head Z<|z6<|bj<|z8 (wd Z)<|z8 (za j9 Z Zg (by decide) Z Z)<|z8 (zd (c:=.str _) Zn Z ⟨_,.head⟩ Z)<|yk (rows:=[[_]]) qU Z Z Z Z Z<|yt (k:=1) Zp type9 Z Z Z Z Z (fun _=>.t1) (by rw[dC (k:=1) (fun _=>rfl),qw];omega) (by decide) Z (by show (_+1)*16≤_;omega) (by show _+1≤_;omega)<|fun i39=>z8 (d6 Z)<|z6<|bj<|aF Z Z<|aa Z<|z6 ?_
   exact ⟨(k+1,i39),f0,dX,⟨_,(.drop (.refl _)),by dsimp only;rw[←ei (enc:=l4) (zQ hk2)];rfl⟩,hk2,by dsimp only;omega⟩
  ·have hkn:k=f.blocks.length:=by simp at ck;omega
   subst hkn
   rw[List.take_of_length_le (by omega:(cE f).length≤f.blocks.length)]
   refine yc<|zb<|ao<|aw jj Z jn Z Z<|aT js Z<|aj j6 Z<|aa Z<|z6<|zk<|yd (γ:=Nat) [1,3,4,42,43] (fun k=>[(44,.int .i64 k)]) (fun k=>[(j,.grow 1 9 (((cE f).map l4).flatten)),(i,.grow 1 9 (((cb f).map l4).flatten))]) (fun k=>k≤f.params.length∧∀i (h:i<f.params.length),i<k→f.params[i]=(i:Int)) (fun k=>f.params.length - k) 0 aY aS (⟨qr _,fun i h h2=>absurd h2 (Nat.not_lt_zero _)⟩) ?_
   rintro k ⟨hk,hP⟩
   refine ao<|ay Z Z<|z6<|zb<|zp Z (fun ck=>?_) (fun ck=>?_)
   ·have hk2:k<f.params.length:=by simp at ck;omega
    refine zg<|zb<|zk<|ao<|aa Z<|z8 (dj k j6 j7 Z Z Z (qo hk2))<|aN je Z<|ax Z<|ax Z<|z6<|ao<|aa Z<|aa Z<|z8 (yl Z Z)<|z6<|zw Z (fun cp=>?_) (fun cp=>?_)
    ·refine ao<|ab Z<|z6<|ze<|zi (x:=.bool _) Z ?_
     exact jb (qy fun h=>by have:=h.2.1 k hk2;simp[this] at cp).symm
    ·refine zg<|bj<|aF Z Z<|aa Z<|z6 ?_
     exact ⟨k+1,qJ,aY,aS,⟨hk2,fun i h h2=>by by_cases e:i=k;(subst e;simpa using cp);exact hP i h (by omega)⟩,by omega⟩
   ·have hkn:k=f.params.length:=by simp at ck;omega
    subst hkn
    have hPar:zR f:=fun i h=>hP i h h
    refine zy (aZ.know (t:=3) (rows:=(cb f).map l4) Z .t1 (by intro r hr;obtain ⟨x,_,rfl⟩:=List.mem_map.1 hr;rfl) (by decide) (by simp))<|zy (aZ.know (t:=4) (rows:=(cE f).map l4) Z .head (by intro r hr;obtain ⟨x,_,rfl⟩:=List.mem_map.1 hr;rfl) (by decide) (by simp))<|yc<|ao<|z8 (eR Z)<|aj Zp Z<|z8 (Gv.leq Z Z)<|ah Z<|zm (s:=56) Z (fun c3=>?_) (fun c3=>?_)
    ·refine z7 Z Z c3<|aw jj Z jn Z Z<|z7 Z Z c3<|aT js Z<|z7 Z Z c3<|aj j6 Z<|z7 Z Z c3<|z8 (eR Z)<|z7 Z Z c3<|aj Zp Z<|z7 Z Z c3<|z8 (Gv.minI Z Z)<|z7 Z Z c3<|z8 (Gv.leq Z Z)<|ap Z c3 Z<|ah Z<|zm (s:=65) Z (fun c4=>?_) (fun c4=>?_)
     ·refine z7 Z Z c4<|z8 (eR Z)<|z7 Z Z c4<|aj Zp Z<|z7 Z Z c4<|z8 (qg Z Z)<|ap Z c4 Z<|ah Z<|zm (s:=70) Z (fun c5=>?_) (fun c5=>?_)
      ·refine z7 Z Z c5<|z8 (eR Z)<|z7 Z Z c5<|aj Zp Z<|z7 Z Z c5<|z8 (Gv.leq Z Z)<|ap Z c5 Z<|ah Z<|zm (s:=75) Z (fun c6=>?_) (fun c6=>?_)
       ·refine z7 Z Z c6<|z8 (eR Z)<|z7 Z Z c6<|zh (iW (cb f) (by omega) (fun s hs=>by obtain ⟨v,hv,rfl⟩:=List.mem_map.1 hs;exact hn.1 v hv) hL) Z<|ap Z c6 Z<|ah Z<|zm (s:=79) Z (fun c7=>?_) (fun c7=>?_)
        ·refine z7 Z Z c7<|z8 (eR Z)<|z7 Z Z c7<|zh (iW (cE f) (by omega) (fun s hs=>by obtain ⟨v,hv,rfl⟩:=List.mem_map.1 hs;exact hn.2 v hv) hL) Z<|ap Z c7 Z<|ab Z<|z6<|ze<|zi (x:=.bool _) Z ?_
         exact jb (by unfold dP gC;simp_all<;>grind)
        ·refine z2 Z Z c7<|z2 Z Z c7<|aq Z c7 Z<|ab Z<|z6<|ze<|zi (x:=.bool _) Z ?_
         exact jb (by unfold dP gC;simp_all<;>grind)
       ·refine z2 Z Z c6<|z2 Z Z c6<|aq Z c6 Z<|ah Z<|z2 Z Z Z<|z2 Z Z Z<|aq Z Z Z<|ab Z<|z6<|ze<|zi (x:=.bool _) Z ?_
        exact jb (by unfold dP gC;simp_all<;>grind)
      ·refine z2 Z Z c5<|z2 Z Z c5<|z2 Z Z c5<|aq Z c5 Z<|ah Z<|z2 Z Z Z<|z2 Z Z Z<|aq Z Z Z<|ah Z<|z2 Z Z Z<|z2 Z Z Z<|aq Z Z Z<|ab Z<|z6<|ze<|zi (x:=.bool _) Z ?_
       exact jb (by unfold dP gC;simp_all<;>grind)
     ·refine z2 Z Z c4<|z2 Z Z c4<|z2 Z Z c4<|aq Z c4 Z<|ah Z<|z2 Z Z Z<|z2 Z Z Z<|z2 Z Z Z<|aq Z Z Z<|ah Z<|z2 Z Z Z<|z2 Z Z Z<|aq Z Z Z<|ah Z<|z2 Z Z Z<|z2 Z Z Z<|aq Z Z Z<|ab Z<|z6<|ze<|zi (x:=.bool _) Z ?_
      exact jb (by unfold dP gC;simp_all<;>grind)
    ·refine z2 Z Z c3<|z2 Z Z c3<|z2 Z Z c3<|z2 Z Z c3<|z2 Z Z c3<|z2 Z Z c3<|z2 Z Z c3<|aq Z c3 Z<|ah Z<|z2 Z Z Z<|z2 Z Z Z<|z2 Z Z Z<|aq Z Z Z<|ah Z<|z2 Z Z Z<|z2 Z Z Z<|z2 Z Z Z<|aq Z Z Z<|ah Z<|z2 Z Z Z<|z2 Z Z Z<|aq Z Z Z<|ah Z<|z2 Z Z Z<|z2 Z Z Z<|aq Z Z Z<|ab Z<|z6<|ze<|zi (x:=.bool _) Z ?_
     exact jb (by unfold dP gC;simp_all<;>grind)
def fL (f:ai) (p:cV):Bool:=!decide (p.args.length=0)&&decide (p.args.length=p.from_.length)&&bn f p.dst&&p.args.all (bn f)&&p.from_.all (dk f)
theorem vd (f:ai) (v:Int):aV prog E 74 ([.int .i64 v]++[.pf (bW f)]) (.bool (!dk f v)):=by
 refine zr func74 Z (by decide) Z<|ao<|ab Z<|z6<|ao<|ac jq jl Z Z<|aa Z<|zh (j5 _ _) Z<|aE Z<|ab Z<|z6<|ze<|zi (x:=.bool _) Z ?_
 rfl
theorem wy (f:ai) (p:cV) (hp:qI p):aV prog E 54 [.agg (bW f),.agg (bD p)] (.bool (fL f p)):=by
 have hl1:=hp.1.lt
 have hl2:=hp.2.lt
 refine zr func54 Z (by decide) Z<|ao<|yf (cs:=_) Z Z Z<|yf (cs:=_) Z Z Z<|ab Z<|z6<|zb<|ao<|aw jr Z jn Z Z<|aT js Z<|aj j6 Z<|az Z Z<|ah Z<|zm (s:=9) Z (fun c8=>?_) (fun c8=>?_)
 ·refine z2 Z Z c8<|z2 Z Z c8<|z2 Z Z c8<|z2 Z Z c8<|z2 Z Z c8<|z2 Z Z c8<|z2 Z Z c8<|ap Z c8 Z<|ah Z<|z2 Z Z Z<|z2 Z Z Z<|z2 Z Z Z<|z2 Z Z Z<|z2 Z Z Z<|ap Z Z Z<|ah Z<|z2 Z Z Z<|z2 Z Z Z<|z2 Z Z Z<|z2 Z Z Z<|z2 Z Z Z<|ap Z Z Z<|z6<|yq Z Z<|ao<|ab Z<|z6<|ze<|zi (x:=.bool _) Z ?_
  exact jb (by have:=List.any_eq_not_all_not (l:=p.from_) (p:=fun x=>!dk f x);simp_all[fL,Int.ofNat_inj]<;>grind)
 ·refine z7 Z Z c8<|aw jr Z jn Z Z<|z7 Z Z c8<|aT js Z<|z7 Z Z c8<|aj j6 Z<|z7 Z Z c8<|aw jr Z jn Z Z<|z7 Z Z c8<|aT js Z<|z7 Z Z c8<|aj j6 Z<|z7 Z Z c8<|z8 (yl Z Z)<|aq Z c8 Z<|ah Z<|zm (s:=18) Z (fun c9=>?_) (fun c9=>?_)
  ·refine z2 Z Z c9<|z2 Z Z c9<|z2 Z Z c9<|z2 Z Z c9<|z2 Z Z c9<|ap Z c9 Z<|ah Z<|z2 Z Z Z<|z2 Z Z Z<|z2 Z Z Z<|z2 Z Z Z<|z2 Z Z Z<|ap Z Z Z<|z6<|yq Z Z<|ao<|ab Z<|z6<|ze<|zi (x:=.bool _) Z ?_
   exact jb (by have:=List.any_eq_not_all_not (l:=p.from_) (p:=fun x=>!dk f x);simp_all[fL,Int.ofNat_inj]<;>grind)
  ·refine z7 Z Z c9<|ac jq jl Z Z<|z7 Z Z c9<|aw jr Z j7 Z Z<|z7 Z Z c9<|aN je Z<|z7 Z Z c9<|zh (fZ _ _) Z<|z7 Z Z c9<|aE Z<|aq Z c9 Z<|ah Z<|zm (s:=25) Z (fun c10=>?_) (fun c10=>?_)
   ·refine z2 Z Z c10<|z2 Z Z c10<|z2 Z Z c10<|z2 Z Z c10<|z2 Z Z c10<|ap Z c10 Z<|z6<|yq Z Z<|ao<|ab Z<|z6<|ze<|zi (x:=.bool _) Z ?_
    exact jb (by have:=List.any_eq_not_all_not (l:=p.from_) (p:=fun x=>!dk f x);simp_all[fL,Int.ofNat_inj]<;>grind)
   ·refine z7 Z Z c10<|ac jq jl Z Z<|z7 Z Z c10<|aw jr Z jn Z Z<|z7 Z Z c10<|aT js Z<|z7 Z Z c10<|zh (mu f p.args (by omega)) Z<|z7 Z Z c10<|aE Z<|aq Z c10 Z<|z6<|zw Z (fun c11=>?_) (fun c11=>?_)
    ·refine ao<|ab Z<|z6<|ze<|zi (x:=.bool _) Z ?_
     exact jb (by have:=List.any_eq_not_all_not (l:=p.from_) (p:=fun x=>!dk f x);simp_all[fL,Int.ofNat_inj]<;>grind)
    ·refine zg<|ao<|aw jr Z jn Z Z<|aT js Z<|z8 (Gv.func Z Z)<|zh (ep p.from_ (by omega) (vd f)) Z<|aE Z<|ab Z<|z6<|ze<|zi (x:=.bool _) Z ?_
     exact jb (by have:=List.any_eq_not_all_not (l:=p.from_) (p:=fun x=>!dk f x);simp_all[fL,Int.ofNat_inj]<;>grind)
end
section
open Go.Proofs.Tryz
open Go.Proofs Go.Lib Go.Shelf Go.RowKit
set_option maxRecDepth 20000
variable {E:World}
theorem jN {p:cV→Bool} {fn:FuncId} {c:List AV} (xs:List cV) (hl:xs.length≤281474976710656) (hp:∀x∈xs,aV prog E fn ([.agg (bD x)]++c) (.bool (p x))) :
  aV prog E 71 [.fro 3 (xs.map bD),.fn fn [] c] (.int .i64 (cR p xs 0)):=by
 refine zr func71 Z (by decide) Z<|ao<|ax Z<|z6<|zb<|ao<|z8 (eR Z)<|aj jy Z<|aa Z<|z6<|zk<|yd (γ:=Nat) [0,1,7] (fun k=>[(8,.int .i64 k)]) (fun k=>[]) (fun k=>k≤xs.length∧(xs.take k).all (fun x=>!p x)) (fun k=>xs.length - k) 0 aY aS (⟨qr _,Z⟩) ?_
 rintro k ⟨hk,hall⟩
 refine ao<|ay Z Z<|z6<|zb<|zp Z (fun ck=>?_) (fun ck=>?_)
 ·have hk2:k<xs.length:=by omega
  refine zg<|zb<|zk<|ao<|aa Z<|ax Z<|z6<|ao<|z8 (yh (v:=.fn _ _ _) Z)<|z8 (eR Z)<|aa Z<|z8 (q8 jy Za Z Z Z (qo (by omega)))<|ac isAgg77 Za Z Z<|ak.callVP Z (hp _ (qs hk2)) Z<|z6<|zw Z (fun cp=>?_) (fun cp=>?_)
  ·refine ao<|aa Z<|ax Z<|z6<|ze<|zi (x:=.int _ _) Z ?_
   rw[bZ p xs k hk hall,List.drop_eq_getElem_cons hk2,cR,if_pos cp]
  ·refine zg<|bj<|aF Z Z<|aa Z<|z6 ?_
   exact ⟨k+1,gB,aY,aS,⟨hk2,by rw[qp hk2,List.all_append,hall];simp[cp]⟩,by omega⟩
 ·have hkn:k=xs.length:=by omega
  refine yc<|ao<|ax Z<|z6<|ze<|zi (x:=.int _ _) Z ?_
  rw[bZ p xs k hk hall,hkn,List.drop_length,cR]
theorem gI {p:cV→Bool} {fn:FuncId} {c:List AV} (xs:List cV) (hl:xs.length≤281474976710656) (hp:∀x∈xs,aV prog E fn ([.agg (bD x)]++c) (.bool (p x))) :
  aV prog E 52 [.fro 3 (xs.map bD),.fn fn [] c] (.bool (xs.any p)):=by
 refine zr func52 Z (by decide) Z<|ao<|ab Z<|z6<|ao<|z8 (eR Z)<|z8 (yh (v:=.fn _ _ _) Z)<|zh (jN xs hl hp) Z<|z8 (qg Z Z)<|ab Z<|z6<|ze<|zi (x:=.bool _) Z ?_
 rw[fa]
theorem jO {p:aD→Bool} {fn:FuncId} {c:List AV} (xs:List aD) (hl:xs.length≤281474976710656) (hp:∀x∈xs,aV prog E fn ([.agg (bf x)]++c) (.bool (p x))) :
  aV prog E 76 [.fro 4 (xs.map bf),.fn fn [] c] (.int .i64 (cR p xs 0)):=by
 refine zr func76 Z (by decide) Z<|ao<|ax Z<|z6<|zb<|ao<|z8 (eR Z)<|aj jm Z<|aa Z<|z6<|zk<|yd (γ:=Nat) [0,1,7] (fun k=>[(8,.int .i64 k)]) (fun k=>[]) (fun k=>k≤xs.length∧(xs.take k).all (fun x=>!p x)) (fun k=>xs.length - k) 0 aY aS (⟨qr _,Z⟩) ?_
 rintro k ⟨hk,hall⟩
 refine ao<|ay Z Z<|z6<|zb<|zp Z (fun ck=>?_) (fun ck=>?_)
 ·have hk2:k<xs.length:=by omega
  refine zg<|zb<|zk<|ao<|aa Z<|ax Z<|z6<|ao<|z8 (yh (v:=.fn _ _ _) Z)<|z8 (eR Z)<|aa Z<|z8 (q8 jm jv Z Z Z (qo (by omega)))<|ac Zr jv Z Z<|ak.callVP Z (hp _ (qs hk2)) Z<|z6<|zw Z (fun cp=>?_) (fun cp=>?_)
  ·refine ao<|aa Z<|ax Z<|z6<|ze<|zi (x:=.int _ _) Z ?_
   rw[bZ p xs k hk hall,List.drop_eq_getElem_cons hk2,cR,if_pos cp]
  ·refine zg<|bj<|aF Z Z<|aa Z<|z6 ?_
   exact ⟨k+1,gB,aY,aS,⟨hk2,by rw[qp hk2,List.all_append,hall];simp[cp]⟩,by omega⟩
 ·have hkn:k=xs.length:=by omega
  refine yc<|ao<|ax Z<|z6<|ze<|zi (x:=.int _ _) Z ?_
  rw[bZ p xs k hk hall,hkn,List.drop_length,cR]
theorem gJ {p:aD→Bool} {fn:FuncId} {c:List AV} (xs:List aD) (hl:xs.length≤281474976710656) (hp:∀x∈xs,aV prog E fn ([.agg (bf x)]++c) (.bool (p x))) :
  aV prog E 55 [.fro 4 (xs.map bf),.fn fn [] c] (.bool (xs.any p)):=by
 refine zr func55 Z (by decide) Z<|ao<|ab Z<|z6<|ao<|z8 (eR Z)<|z8 (yh (v:=.fn _ _ _) Z)<|zh (jO xs hl hp) Z<|z8 (qg Z Z)<|ab Z<|z6<|ze<|zi (x:=.bool _) Z ?_
 rw[fa]
theorem m9 (f:ai) (p:cV) (hp:qI p):aV prog E 53 ([.agg (bD p)]++[.pf (bW f)]) (.bool (!fL f p)):=by
 refine zr func53 Z (by decide) Z<|ao<|yf (cs:=_) Z Z Z<|ab Z<|z6<|ao<|ac jq jl Z Z<|ac isAgg77 Za Z Z<|zh (wy _ _ (by assumption)) Z<|aE Z<|ab Z<|z6<|ze<|zi (x:=.bool _) Z ?_
 rfl
theorem na (f:ai) (x:aD) (hx:mv x.args):aV prog E 56 ([.agg (bf x)]++[.pf (bW f)]) (.bool (!bX f x)):=by
 refine zr func56 Z (by decide) Z<|ao<|yf (cs:=_) Z Z Z<|ab Z<|z6<|ao<|ac jq jl Z Z<|ac Zr jv Z Z<|zh (uS _ _ (by assumption)) Z<|aE Z<|ab Z<|z6<|ze<|zi (x:=.bool _) Z ?_
 rfl
def eC (f:ai) (b:aI):Bool:=!(b.phis.any fun p=>!fL f p)&&!(b.insts.any fun x=>!bX f x)&&bh f b.term
theorem ld {f:ai} {b:aI} (h:(b.phis.any fun p=>!fL f p)=true):eC f b=false:=by unfold eC;rw[h];rfl
theorem lg {f:ai} {b:aI} (h:(b.insts.any fun x=>!bX f x)=true):eC f b=false:=by unfold eC;rw[h];simp
theorem lh {f:ai} {b:aI} (h:(!bh f b.term)=true):eC f b=false:=by unfold eC;rw[show bh f b.term=false by simpa using h];simp
theorem wz {f:ai} {b:aI} (h1:(b.phis.any fun p=>!fL f p)=false) (h2:(b.insts.any fun x=>!bX f x)=false) (h3:(!bh f b.term)=false):eC f b=true:=by unfold eC;rw[h1,h2,show bh f b.term=true by simpa using h3];rfl
def dn (f:ai):Bool:=decide (dP f)&&(f.blocks.all (eC f)&&decide (dD f.blocks≤1024))
theorem ov (f:ai) (hf:mX f) (h1:f.vars.length≤100000000) (h2:f.blocks.length≤100000000) (hp:f.params.length≤100000000) (hn:gY f) (hL:ae E):aV prog E 34 [.agg (bW f)] (.bool (dn f)):=by
 refine zr func34 Z (by decide) Z<|ao<|yf (cs:=_) Z Z Z<|ab Z<|z6<|zb<|ao<|ac jq jl Z Z<|zh (ou _ (by omega) (by omega) (by omega) (by assumption) hL) Z<|aE Z<|z6<|zw Z (fun cn=>?_) (fun cn=>?_)
 ·refine ao<|ab Z<|z6<|ze<|zi (x:=.bool _) Z ?_
  exact jb (by unfold dn;rw[show decide (dP f)=false by simpa using cn];rfl)
 ·have hN:dP f:=by simpa using cn
  have hbl:=hN.2.2.1.2.2.2.2
  refine zg<|ao<|ax Z<|z6<|zb<|ao<|aw jj Z Z6 Z Z<|aT Zk Z<|aj jp Z<|aa Z<|z6<|zk<|yd (γ:=Nat) [1,11,12] (fun k=>[(3,.int .i64 (dD (f.blocks.take k))),(13,.int .i64 k)]) (fun k=>[]) (fun k=>k≤f.blocks.length∧dD (f.blocks.take k)≤k*562949953421312∧(f.blocks.take k).all (eC f)=true) (fun k=>f.blocks.length - k) 0 dX aS (⟨qr _,qr _,Z⟩) ?_
  rintro k ⟨hk,hsum,hall⟩
  refine ao<|ay Z Z<|z6<|zb<|zp Z (fun ck=>?_) (fun ck=>?_)
  ·have hk2:k<f.blocks.length:=by simp at ck;omega
   obtain ⟨b,hbk⟩:∃b,f.blocks[k]=b:=⟨_,rfl⟩
   have hget:f.blocks[k]?=some b:=by rw[qo hk2,hbk]
   have hb:=hf.2.2.2 b (hbk▸qs hk2)
   have hb1:=hb.1.lt
   have hb2:=hb.2.1.lt
   have hsucc:=kR f.blocks k hk2
   rw[hbk] at hsucc
   refine zg<|zb<|zk<|ao<|z8 (dj k jp ju Z Z Z hget)<|ac Y0 ju Z Z<|zz (cs:=[.str ⟨#[]⟩,.raw (.slice none 0 0),.raw (.slice none 0 0),.int .i64 0,.int .i64 0,.int .i64 0,.int .i64 0]) Ze Z Z<|fun i5=>zx ju Z Z Z Z Z Z .head Z<|z6<|ao<|aa Z<|z8 (za j9 Z Zq (by decide) Z Z)<|z8 (zd (c:=.fro _ _) Y8 Z ⟨_,.head⟩ Z)<|aj jy Z<|z8 (za j9 Z jw (by decide) Z Z)<|z8 (zd (c:=.fro _ _) Zb Z ⟨_,.head⟩ Z)<|aj jm Z<|aF Z Z<|aF Z Z<|ax Z<|z6<|ao<|z8 (za j9 Z Zq (by decide) Z Z)<|z8 (zd (c:=.fro _ _) Y8 Z ⟨_,.head⟩ Z)<|z8 (Gv.func Z Z)<|zh (gI b.phis (by omega) (fun p hp=>m9 f p (hb.2.2.1 p hp))) Z<|ah Z<|zm (s:=30) Z (fun c1=>?_) (fun c1=>?_)
   ·refine z2 Z Z c1<|z2 Z Z c1<|z2 Z Z c1<|z2 Z Z c1<|ap Z c1 Z<|ab Z<|z6<|ao<|ah Z<|ah Z<|z2 Z Z Z<|z2 Z Z Z<|z2 Z Z Z<|z2 Z Z Z<|z2 Z Z Z<|ap Z Z Z<|z6<|yq Z Z<|ao<|ab Z<|z6<|ze<|zi (x:=.bool _) Z ?_
    exact jb (by unfold dn;rw[show f.blocks.all (eC f)=false from Bool.eq_false_iff.2 (ef hk2 (by rw[hbk];first|exact ld (by assumption)|exact lg (by assumption)|exact lh (by assumption)))];simp)
   ·refine z7 Z Z c1<|z8 (za j9 Z jw (by decide) Z Z)<|z7 Z Z c1<|z8 (zd (c:=.fro _ _) Zb Z ⟨_,.head⟩ Z)<|z7 Z Z c1<|z8 (Gv.func Z Z)<|z7 Z Z c1<|zh (gJ b.insts (by omega) (fun x hx=>na f x (hb.2.2.2 x hx))) Z<|aq Z c1 Z<|ab Z<|z6<|ao<|ah Z<|ah Z<|zm (s:=37) Z (fun c2=>?_) (fun c2=>?_)
    ·refine z2 Z Z c2<|z2 Z Z c2<|z2 Z Z c2<|z2 Z Z c2<|z2 Z Z c2<|ap Z c2 Z<|z6<|yq Z Z<|ao<|ab Z<|z6<|ze<|zi (x:=.bool _) Z ?_
     exact jb (by unfold dn;rw[show f.blocks.all (eC f)=false from Bool.eq_false_iff.2 (ef hk2 (by rw[hbk];first|exact ld (by assumption)|exact lg (by assumption)|exact lh (by assumption)))];simp)
    ·refine z7 Z Z c2<|ac jq jl Z Z<|z7 Z Z c2<|z8 (za j9 Z Zt (by decide) Z Z)<|z7 Z Z c2<|z8 (Gv.loadAC (l:=[_,_,_,_]) isAgg60 Zt Z ⟨_,.head⟩ Z Z)<|z7 Z Z c2<|zh (uT _ _) Z<|z7 Z Z c2<|aE Z<|aq Z c2 Z<|z6<|zw Z (fun c3=>?_) (fun c3=>?_)
     ·refine ao<|ab Z<|z6<|ze<|zi (x:=.bool _) Z ?_
      exact jb (by unfold dn;rw[show f.blocks.all (eC f)=false from Bool.eq_false_iff.2 (ef hk2 (by rw[hbk];first|exact ld (by assumption)|exact lg (by assumption)|exact lh (by assumption)))];simp)
     ·refine zg<|bj<|aF Z Z<|aa Z<|z6 ?_
      exact ⟨k+1,gB,⟨congrArg (AV.int .i64) (by rw[hsucc];omega),rfl,trivial⟩,⟨_,(.drop (.refl _)),rfl⟩,⟨hk2,by rw[hsucc];omega,cA hk2 hall (by rw[hbk];exact wz (by assumption) (by assumption) (by assumption))⟩,by omega⟩
  ·have hkn:k=f.blocks.length:=by simp at ck;omega
   subst hkn
   rw[qt] at hall ⊢
   refine yc<|ao<|aa Z<|z8 (Gv.leq Z Z)<|ab Z<|z6<|ze<|zi (x:=.bool _) Z ?_
   exact jb (by unfold dn;rw[qx hN,hall];simp;omega)
theorem mC (f:ai) (p:cV):fL f p=true↔l5 f p:=by
 unfold fL l5
 simp only[qz,Bool.not_eq_true',decide_eq_false_iff_not,decide_eq_true_eq]
 constructor
 ·rintro ⟨⟨⟨⟨h1,h2⟩,h3⟩,h4⟩,h5⟩;exact ⟨h3,h2,by omega,h4,h5⟩
 ·rintro ⟨h3,h2,h1,h4,h5⟩;exact ⟨⟨⟨⟨by omega,h2⟩,h3⟩,h4⟩,h5⟩
theorem mD (t:Int):¬fx t=⟨#[]⟩↔0≤t∧t≤2:=by
 unfold fx
 constructor
 ·intro h
  by_cases h0:t=0
  ·omega
  ·by_cases h1:t=1
   ·omega
   ·by_cases h2:t=2
    ·omega
    ·rw[if_neg h0,if_neg h1,if_neg h2] at h;exact absurd rfl h
 ·intro h e
  have:t=0∨t=1∨t=2:=by omega
  rcases this with rfl|rfl|rfl<;>exact absurd e (by decide)
theorem ve (f:ai) (b:aI):eC f b=true↔uU f b:=by
 unfold eC uU
 simp only[qz,Bool.not_eq_true',List.any_eq_false,Bool.not_eq_false]
 constructor
 ·rintro ⟨⟨h1,h2⟩,h3⟩
  exact ⟨fun p hp=>(mC f p).1 (by simpa using h1 p hp),fun x hx=>(kU f x).1 (by simpa using h2 x hx),h3⟩
 ·rintro ⟨h1,h2,h3⟩
  exact ⟨⟨fun p hp=>by simpa using (mC f p).2 (h1 p hp),fun x hx=>by simpa using (kU f x).2 (h2 x hx)⟩,h3⟩
theorem wA {l:List ByteArray}:pp l↔∀i (h:i<l.length),cZ l[i]=true∧l[i] ∉ l.take i:=by
 unfold pp
 constructor<;>intro h i hi
 ·exact ⟨(h i hi).1,fun hm=>by have:=qV.2 hm;rw[(h i hi).2] at this;cases this⟩
 ·exact ⟨(h i hi).1,Bool.eq_false_iff.2 fun hm=>(h i hi).2 (qV.1 hm)⟩
theorem qX {f:ai} {i:Nat} (h:i<(cb f).length) (h':i<f.vars.length):(cb f)[i]=f.vars[i].name:=by
 have:(cb f)[i]?=some f.vars[i].name:=by unfold cb;rw[List.getElem?_map,qo h'];rfl
 rw[qo h] at this
 simpa using this
theorem qY {f:ai} {i:Nat} (h:i<(cE f).length) (h':i<f.blocks.length):(cE f)[i]=f.blocks[i].name:=by
 have:(cE f)[i]?=some f.blocks[i].name:=by unfold cE;rw[List.getElem?_map,qo h'];rfl
 rw[qo h] at this
 simpa using this
theorem eD (f:ai):dn f=decide (b5 f):=by
 rw[Bool.eq_iff_iff,decide_eq_true_iff]
 unfold dn
 simp only[qz,decide_eq_true_iff,List.all_eq_true,ve]
 unfold dP gC b5 jK
 simp only[wA]
 constructor
 ·rintro ⟨⟨h1,h2,⟨g1,g2,g3,g4,g5⟩,h4,h5⟩,h6,h7⟩
  refine ⟨?_,h2,fun i h=>?_,fun i h=>?_,h7,h6⟩
  ·simp;omega
  ·have ht:=(mD _).1 (h1 i h)
   have hu:=h4 i (by unfold cb;simpa using h)
   have e:=qX (f:=f) (i:=i) (by unfold cb;simpa using h) h
   rw[e] at hu
   exact ⟨by rw[ka];exact hu.1,ht.1,ht.2,fun s hs e2=>hu.2 (by unfold cb;rw[←List.map_take,←e2];exact hs)⟩
  ·have hu:=h5 i (by unfold cE;simpa using h)
   have e:=qY (f:=f) (i:=i) (by unfold cE;simpa using h) h
   rw[e] at hu
   exact ⟨by rw[ka];exact hu.1,fun s hs e2=>hu.2 (by unfold cE;rw[←List.map_take,←e2];exact hs)⟩
 ·rintro ⟨h1,h2,h3,h4,h7,h6⟩
  simp at h1
  refine ⟨⟨fun i h=>(mD _).2 ⟨(h3 i h).2.1,(h3 i h).2.2.1⟩,h2,by omega,fun i h=>?_,fun i h=>?_⟩,h6,h7⟩
  ·have h':i<f.vars.length:=by simpa using h
   have e:=qX h h'
   rw[e]
   exact ⟨by rw[←ka];exact (h3 i h').1,fun hm=>(h3 i h').2.2.2 _ (by unfold cb at hm;rw[←List.map_take] at hm;exact hm) rfl⟩
  ·have h':i<f.blocks.length:=by simpa using h
   have e:=qY h h'
   rw[e]
   exact ⟨by rw[←ka];exact (h4 i h').1,fun hm=>(h4 i h').2 _ (by unfold cE at hm;rw[←List.map_take] at hm;exact hm) rfl⟩
set_option linter.defProp false
def ym:=@Gv.idxI
def q7:=@ak.storeI
def qh:=@Gv.loadI
def ql:=@ak.makeI
end
end Go.Proofs.YtbconpmnckokoaaGreatDoor
