/- Two runs side by side; inputs that are little. Of programs and inputs that are little. -/
import Derived.Test.YtbconpmnckokoaaGreatDoorZk
import Derived.Test.YtbconpmnckokoaaGreatDoorZf
set_option linter.unusedVariables false
set_option linter.unusedSimpArgs false
set_option linter.unusedSectionVars false
namespace Go.Proofs.YtbconpmnckokoaaGreatDoor
section
open Go.Proofs.Tryz
open Go.Proofs Go.Lib Go.Shelf Go.RowKit
theorem vx:gF prog 55 #[(0,3),(3,1),(4,1),(5,1),(6,1),(7,1),(8,1),(9,13),(22,1)] [.raw (.slice none 0 0),.raw (.slice none 0 0),.raw (.slice none 0 0),.raw (.slice none 0 0),.raw (.slice none 0 0),.raw (.slice none 0 0),.raw (.slice none 0 0),.int .i64 0,.int .i64 0,.int .i64 0,.int .i64 0,.int .i64 0,.raw (.slice none 0 0),.int .i64 0,.int .i64 0,.int .i64 0,.int .i64 0,.int .i64 0,.int .i64 0,.int .i64 0,.int .i64 0,.int .i64 0,.bool false]:=⟨_,_,j8,zeroValue55,fun w=>by kernel_rfl,rfl⟩
variable {E:World}
set_option maxRecDepth 20000
def w3 (a:pi):List AV:=[.int .i64 a.int,.bool a.b,.int .i64 a.arr]
def w4 (r:List Int):List AV:=[.fro 1 (r.map bS)]
def mI (i:pj):List AV:=[.fro 3 (i.args.map w3),.fro 1 (i.arrays.map w4)]
def gO (s:GS):List AV:=[.int .i64 s.en,.int .i64 s.val,.int .i64 s.tr,.fro 1 (s.trace.map bS),.int .i64 s.st,.int .i64 (s.ck 0),.int .i64 (s.ck 1),.int .i64 (s.ck 2),.int .i64 (s.ck 3),.int .i64 (s.ck 4),.int .i64 (s.ck 5),.int .i64 (s.ck 6),.int .i64 (s.ck 7)]
def gD (n k:Nat):List Int:=List.replicate k (-1)++List.replicate (n - k) 0
theorem Ag (n:Nat):gD n 0=List.replicate n 0:=by unfold gD;simp
theorem Ah (n:Nat):gD n n=List.replicate n (-1):=by unfold gD;simp
theorem mJ {n k:Nat} (h:k≤n):(gD n k).length=n:=by unfold gD;simp;omega
theorem vy {n k:Nat} (h:k<n):(gD n k).set k (-1)=gD n (k+1):=by
 unfold gD
 rw[List.set_append_right _ _ (by simp),List.length_replicate,Nat.sub_self,show n - k=(n - (k+1))+1 by omega,List.replicate_succ,List.set_cons_zero,List.replicate_succ',qq];rfl
section
variable {α β:Type} {g:Nat→α→β} {d:β} {n k:Nat} {l:List α}
theorem pK:cD g d n (l.take 0)=List.replicate n d:=by unfold cD;simp
theorem w5 (h:l.length≤n):(cD g d n l).length=n:=by unfold cD;simp;omega
theorem dQ (h:l.length≤n) (k:Nat):(cD g d n (l.take k)).length=n:=w5 (by rw[qw];omega)
theorem im (hk:k<l.length) (h:l.length≤n):(cD g d n (l.take k)).set k (g k l[k])=cD g d n (l.take (k+1)):=by
 have hl:((l.take k).zipIdx.map fun q=>g q.2 q.1).length=k:=by simp;omega
 unfold cD
 rw[List.set_append_right _ _ (by rw[hl];exact Nat.le_refl _),hl,Nat.sub_self,qw,qw,Nat.min_eq_left (by omega),Nat.min_eq_left (by omega),show n - k=(n - (k+1))+1 by omega,List.replicate_succ,List.set_cons_zero,qp hk,List.zipIdx_append,List.map_append,qq]
 have:(l.take k).length=k:=by rw[qw];omega
 simp[this]
theorem iJ (hk:k<l.length) (h:l.length≤n) (e:g k l[k]=d):cD g d n (l.take k)=cD g d n (l.take (k+1)):=by
 rw[←im hk h,e]
 refine (List.ext_getElem? fun j=>?_)
 by_cases hj:k=j
 ·subst hj
  rw[List.getElem?_set_self (by rw[dQ h];omega)]
  have hl:((l.take k).zipIdx.map fun q=>g q.2 q.1).length=k:=by simp;omega
  unfold cD
  rw[List.getElem?_append_right (by rw[hl];exact Nat.le_refl _),hl,Nat.sub_self,qw,Nat.min_eq_left (by omega),List.getElem?_replicate,if_pos (by omega)]
 ·rw[List.getElem?_set_ne hj]
end
theorem w6 (r:List Int):(r.map bS).flatten=cI r:=qT r
abbrev Ai (ints:List Int) (bools:List Bool) (arrs:List Int) (arrays:List (List Int)):GS:=⟨ints,bools,arrs,arrays,0,0,3,0,0,[],0,fun _=>0,false⟩
theorem Aj (f:ai) (iw ja jb jc jo jt:Nat) {ids:List Nat} {s:GS} (h:ids.length=s.arrays.length) (i:Nat) (r:List Int) (m:Nat) (hm:m=r.length):(iw,aW.cells 55 (bW f++[.own ja f.vars.length,.own jb f.vars.length,.own jc f.vars.length,.own jo (s.arrays.length+1),.int .i64 s.blk,.int .i64 s.pc,.int .i64 s.en,.int .i64 s.val,.int .i64 s.tr,.own jt s.trace.length,.int .i64 s.st,.int .i64 (s.ck 0),.int .i64 (s.ck 1),.int .i64 (s.ck 2),.int .i64 (s.ck 3),.int .i64 (s.ck 4),.int .i64 (s.ck 5),.int .i64 (s.ck 6),.int .i64 (s.ck 7),.bool s.ended]))::(ja,.grow 1 2 (cI s.ints))::(jb,.grow 1 4 (cB s.bools))::(jc,.grow 1 3 (cI s.arrs))::(jo,.grow 1 49 (eF ids s.arrays++[.own i m]))::(jt,.grow 1 2 (cI s.trace))::[(0,Aa (lE (ids++[i]) (s.arrays++[r])))]=wO f iw ja jb jc jo jt (ids++[i]) { s with arrays:=s.arrays++[r] }:=by
 subst hm
 unfold wO wR nU
 rw[←mH i r h]
 simp only[qu,List.length_singleton]
set_option maxHeartbeats 16000000 in
theorem iX (f:ai) (i:pj) (hv:f.vars.length≤1000) (ha:i.args.length≤f.vars.length) (hn:i.arrays.length≤40) (hr:∀r∈i.arrays,r.length≤100):bC prog E 16 [.agg (bW f),.agg (mI i)] [] (fun y O=>∃iw ja jb jc jo jt ids,ids.length=i.arrays.length∧y=.po iw 0∧O=wO f iw ja jb jc jo jt ids (g9 f i)):=by
 refine zr func16 Z (by decide) Z<|ao<|yf (cs:=_) Z Z Z<|yf (cs:=_) Z Z Z<|z8 (uR Z)<|z6<|ao<|aw jj Z Y4 Z Z<|aT Yb Z<|aj Z5 Z<|ax Z<|z6<|zb<|yp (γ:=Nat × Nat × Nat × Nat) [2,3] (fun g=>[(6,.po g.1 0)]) (fun g=>[(g.1,.cells 55 (bW f++[.own g.2.1 f.vars.length,.own g.2.2.1 f.vars.length,.own g.2.2.2 f.vars.length,.raw (.slice none 0 0),.int .i64 0,.int .i64 0,.int .i64 0,.int .i64 0,.int .i64 0,.raw (.slice none 0 0),.int .i64 0,.int .i64 0,.int .i64 0,.int .i64 0,.int .i64 0,.int .i64 0,.int .i64 0,.int .i64 0,.int .i64 0,.bool false])),(g.2.1,.grow 1 2 (cI (List.replicate f.vars.length 0))),(g.2.2.1,.grow 1 4 (cB (List.replicate f.vars.length false))),(g.2.2.2,.grow 1 3 (cI (List.replicate f.vars.length 0)))]) (fun g=>True) ?_ (fun _ _ h=>h) ?_
 ·refine zo (fun j=>false) (by kernel_rfl) Z (zq (.rest _))<|ad 0 Z (yu jq jl Z Z)<|ad 1 Z (cG Z)<|ad 3 Z (cG Z)<|ad 5 Z (cG Z)<|bH.three (i:=2) (j:=4) (m:=6) Z Z Z (by kernel_rfl) ?_ ?_ ?_
  ·refine ql (m:=f.vars.length) jg Y2 Z Z Z Z Z (by simp) (by simp) (by show (8:Int)*_≤_;omega) (by omega)<|fun i17=>z6<|qb (i:=4) (j:=6) Z Z (by kernel_rfl) ?_ ?_
   ·refine ak.makeB (m:=f.vars.length) jk Zv Z Z Z Z Z (by simp) (by simp) (by show (1:Int)*_≤_;omega) (by omega)<|fun i19=>z6<|bl 6 Z<|ql (m:=f.vars.length) j6 Zo Z Z Z Z Z (by simp) (by simp) (by show (8:Int)*_≤_;omega) (by omega)<|fun i21=>z6<|ad 7 Z (yn (cps:=[(0,[_,_,_]),(1,[_]),(2,[_]),(3,[_])]) (rs:=[_,_,_,_,_,_,.raw (.slice none 0 0),.int .i64 0,.int .i64 0,.int .i64 0,.int .i64 0,.int .i64 0,.raw (.slice none 0 0),.int .i64 0,.int .i64 0,.int .i64 0,.int .i64 0,.int .i64 0,.int .i64 0,.int .i64 0,.int .i64 0,.int .i64 0,.bool false]) vx Z Z Z)<|bl 8 Z<|ak.boxO (cs:=_) Z Z Z Z<|fun i23=>zt (zj (zn .t1))<|zt (zj (zn .t2))<|zt (zj (zn .t3))<|zt (zj (zn .t3))<|z6<|ad 9 Z (yJ Z)<|dU ?_
    exact ⟨(i23,i17,i19,i21),dX,aY,aS,trivial⟩
   ·refine ql (m:=f.vars.length) j6 Zo Z Z Z Z Z (by simp) (by simp) (by show (8:Int)*_≤_;omega) (by omega)<|fun i21=>z6<|bl 4 Z<|ak.makeB (m:=f.vars.length) jk Zv Z Z Z Z Z (by simp) (by simp) (by show (1:Int)*_≤_;omega) (by omega)<|fun i19=>z6<|ad 7 Z (yn (cps:=[(0,[_,_,_]),(1,[_]),(2,[_]),(3,[_])]) (rs:=[_,_,_,_,_,_,.raw (.slice none 0 0),.int .i64 0,.int .i64 0,.int .i64 0,.int .i64 0,.int .i64 0,.raw (.slice none 0 0),.int .i64 0,.int .i64 0,.int .i64 0,.int .i64 0,.int .i64 0,.int .i64 0,.int .i64 0,.int .i64 0,.int .i64 0,.bool false]) vx Z Z Z)<|bl 8 Z<|ak.boxO (cs:=_) Z Z Z Z<|fun i23=>zt (zj (zn .t2))<|zt (zj (zn .t2))<|zt (zj (zn .t3))<|zt (zj (zn .t3))<|z6<|ad 9 Z (yJ Z)<|dU ?_
    exact ⟨(i23,i17,i19,i21),dX,aY,aS,trivial⟩
  ·refine ak.makeB (m:=f.vars.length) jk Zv Z Z Z Z Z (by simp) (by simp) (by show (1:Int)*_≤_;omega) (by omega)<|fun i19=>z6<|qb (i:=2) (j:=6) Z Z (by kernel_rfl) ?_ ?_
   ·refine ql (m:=f.vars.length) jg Y2 Z Z Z Z Z (by simp) (by simp) (by show (8:Int)*_≤_;omega) (by omega)<|fun i17=>z6<|bl 6 Z<|ql (m:=f.vars.length) j6 Zo Z Z Z Z Z (by simp) (by simp) (by show (8:Int)*_≤_;omega) (by omega)<|fun i21=>z6<|ad 7 Z (yn (cps:=[(0,[_,_,_]),(1,[_]),(2,[_]),(3,[_])]) (rs:=[_,_,_,_,_,_,.raw (.slice none 0 0),.int .i64 0,.int .i64 0,.int .i64 0,.int .i64 0,.int .i64 0,.raw (.slice none 0 0),.int .i64 0,.int .i64 0,.int .i64 0,.int .i64 0,.int .i64 0,.int .i64 0,.int .i64 0,.int .i64 0,.int .i64 0,.bool false]) vx Z Z Z)<|bl 8 Z<|ak.boxO (cs:=_) Z Z Z Z<|fun i23=>zt (zj (zn .t1))<|zt (zj (zn .t3))<|zt (zj (zn .t3))<|zt (zj (zn .t3))<|z6<|ad 9 Z (yJ Z)<|dU ?_
    exact ⟨(i23,i17,i19,i21),dX,aY,aS,trivial⟩
   ·refine ql (m:=f.vars.length) j6 Zo Z Z Z Z Z (by simp) (by simp) (by show (8:Int)*_≤_;omega) (by omega)<|fun i21=>z6<|bl 2 Z<|ql (m:=f.vars.length) jg Y2 Z Z Z Z Z (by simp) (by simp) (by show (8:Int)*_≤_;omega) (by omega)<|fun i17=>z6<|ad 7 Z (yn (cps:=[(0,[_,_,_]),(1,[_]),(2,[_]),(3,[_])]) (rs:=[_,_,_,_,_,_,.raw (.slice none 0 0),.int .i64 0,.int .i64 0,.int .i64 0,.int .i64 0,.int .i64 0,.raw (.slice none 0 0),.int .i64 0,.int .i64 0,.int .i64 0,.int .i64 0,.int .i64 0,.int .i64 0,.int .i64 0,.int .i64 0,.int .i64 0,.bool false]) vx Z Z Z)<|bl 8 Z<|ak.boxO (cs:=_) Z Z Z Z<|fun i23=>zt (zj (zn .t2))<|zt (zj (zn .t3))<|zt (zj (zn .t3))<|zt (zj (zn .t3))<|z6<|ad 9 Z (yJ Z)<|dU ?_
    exact ⟨(i23,i17,i19,i21),dX,aY,aS,trivial⟩
  ·refine ql (m:=f.vars.length) j6 Zo Z Z Z Z Z (by simp) (by simp) (by show (8:Int)*_≤_;omega) (by omega)<|fun i21=>z6<|qb (i:=2) (j:=4) Z Z (by kernel_rfl) ?_ ?_
   ·refine ql (m:=f.vars.length) jg Y2 Z Z Z Z Z (by simp) (by simp) (by show (8:Int)*_≤_;omega) (by omega)<|fun i17=>z6<|bl 4 Z<|ak.makeB (m:=f.vars.length) jk Zv Z Z Z Z Z (by simp) (by simp) (by show (1:Int)*_≤_;omega) (by omega)<|fun i19=>z6<|ad 7 Z (yn (cps:=[(0,[_,_,_]),(1,[_]),(2,[_]),(3,[_])]) (rs:=[_,_,_,_,_,_,.raw (.slice none 0 0),.int .i64 0,.int .i64 0,.int .i64 0,.int .i64 0,.int .i64 0,.raw (.slice none 0 0),.int .i64 0,.int .i64 0,.int .i64 0,.int .i64 0,.int .i64 0,.int .i64 0,.int .i64 0,.int .i64 0,.int .i64 0,.bool false]) vx Z Z Z)<|bl 8 Z<|ak.boxO (cs:=_) Z Z Z Z<|fun i23=>zt (zj (zn .t3))<|zt (zj (zn .t2))<|zt (zj (zn .t3))<|zt (zj (zn .t3))<|z6<|ad 9 Z (yJ Z)<|dU ?_
    exact ⟨(i23,i17,i19,i21),dX,aY,aS,trivial⟩
   ·refine ak.makeB (m:=f.vars.length) jk Zv Z Z Z Z Z (by simp) (by simp) (by show (1:Int)*_≤_;omega) (by omega)<|fun i19=>z6<|bl 2 Z<|ql (m:=f.vars.length) jg Y2 Z Z Z Z Z (by simp) (by simp) (by show (8:Int)*_≤_;omega) (by omega)<|fun i17=>z6<|ad 7 Z (yn (cps:=[(0,[_,_,_]),(1,[_]),(2,[_]),(3,[_])]) (rs:=[_,_,_,_,_,_,.raw (.slice none 0 0),.int .i64 0,.int .i64 0,.int .i64 0,.int .i64 0,.int .i64 0,.raw (.slice none 0 0),.int .i64 0,.int .i64 0,.int .i64 0,.int .i64 0,.int .i64 0,.int .i64 0,.int .i64 0,.int .i64 0,.int .i64 0,.bool false]) vx Z Z Z)<|bl 8 Z<|ak.boxO (cs:=_) Z Z Z Z<|fun i23=>z6<|ad 9 Z (yJ Z)<|dU ?_
    exact ⟨(i23,i17,i19,i21),dX,aY,aS,trivial⟩
 ·rintro ⟨i23,i17,i19,i21⟩ _
  refine ao<|bd Z<|z8 (zf Z)<|z8 (za j8 Z jz (by decide) Z Z)<|z8 (za jf Z sizeOf50 (by decide) Z Z)<|y8 (l:=[_]) (new:=[_,_,_,_,_,_,_,_,_,_,_,_,_,_,_,_,_,_,_,_,_,_,_]) sizeOf50 Z Z Z Z Z Z .head Z Z<|z6<|dM (off:=6) (k:=1) (T:=49) (fun _=>.head) Z<|fun jo=>dM (off:=12) (k:=1) (T:=2) (fun _=>.t1) Z<|fun jt=>zy aZ.bagNew<|zy (zj (zn .head))<|zy (zj (zn .t1))<|zy (zj (zn .t2))<|zy (zj (zn .t6))<|zy (zj (zn .t6))<|zy (zj (zn .t6))<|zy (zj (zn .t6))<|zb<|ao<|bd Z<|z8 (zf Z)<|z8 (za j8 Z jn (by decide) Z Z)<|z8 (zd (c:=.own _ _) js Z ⟨_,.head⟩ Z)<|z8 (Gv.lenO j6 Z)<|aa Z<|z6<|zk<|yd (γ:=Nat) [2,3,6,32] (fun k=>[(33,.int .i64 k)]) (fun k=>wO f i23 i17 i19 i21 jo jt [] (Ai (List.replicate f.vars.length 0) (List.replicate f.vars.length false) (gD f.vars.length k) [])) (fun k=>k≤f.vars.length) (fun k=>f.vars.length - k) 0 aY ⟨_,(.refl _),by rw[Ag];rfl⟩ (qr _) ?_
  rintro k hk
  refine ao<|ay Z Z<|z6<|zb<|zp Z (fun ck=>?_) (fun ck=>?_)
  ·have hk2:k<f.vars.length:=by simp at ck;omega
   refine zg<|zb<|zk<|ao<|aa Z<|ax Z<|z6<|bj<|bd Z<|z8 (zf Z)<|z8 (za j8 Z jn (by decide) Z Z)<|z8 (zd (c:=.own _ _) js Z ⟨_,.head⟩ Z)<|aa Z<|z8 (ym (j:=k) j6 j7 Z Z Z ⟨_,.t3⟩ ((aO _).trans (mJ hk)) hk2)<|q7 (j:=k) j7 Z Z .t3 (by rw[mJ hk];exact hk2)<|z6<|bj<|aF Z Z<|aa Z<|z6 ?_
   exact ⟨k+1,f0,aY,⟨_,(.refl _),by rw[←vy hk2]⟩,hk2,by omega⟩
  ·obtain rfl:k=f.vars.length:=by simp at ck;omega
   rw[Ah]
   refine yc<|zb<|ao<|aw Zm Z sizeOf39 Z Z<|aT isAgg39 Z<|aj Y7 Z<|aa Z<|z6<|zk<|yd (γ:=Nat) [2,3,6,44,45] (fun k=>[(46,.int .i64 k)]) (fun k=>wO f i23 i17 i19 i21 jo jt [] (Ai (cD (l8 f) 0 f.vars.length (i.args.take k)) (cD (l9 f) false f.vars.length (i.args.take k)) (cD (k7 f) (-1) f.vars.length (i.args.take k)) [])) (fun k=>k≤i.args.length) (fun k=>i.args.length - k) 0 aY ⟨_,(.refl _),by rw[pK,pK,pK]⟩ (qr _) ?_
   rintro k hk
   refine ao<|ay Z Z<|z6<|zb<|zp Z (fun ck=>?_) (fun ck=>?_)
   ·have hk2:k<i.args.length:=by simp at ck;omega
    obtain ⟨a,hea⟩:∃a,i.args[k]=a:=⟨_,rfl⟩
    have hag:i.args[k]?=some a:=by rw[qo hk2,hea]
    obtain ⟨v,hev⟩:∃v,f.vars[k]?=some v:=⟨_,qo (by omega)⟩
    have hty:lW f k=v.ty:=by unfold lW;rw[hev];rfl
    have sI:=im (g:=l8 f) (d:=0) hk2 ha
    have sB:=im (g:=l9 f) (d:=false) hk2 ha
    have sA:=im (g:=k7 f) (d:=-1) hk2 ha
    have kI:=iJ (g:=l8 f) (d:=0) hk2 ha
    have kB:=iJ (g:=l9 f) (d:=false) hk2 ha
    have kA:=iJ (g:=k7 f) (d:=-1) hk2 ha
    rw[hea] at sI sB sA kI kB kA
    refine zg<|zb<|zk<|ao<|aa Z<|z8 (dj k Y7 sizeOf84 Z Z Z hag)<|ac isAgg84 sizeOf84 Z Z<|zz (cs:=[.int .i64 0,.bool false,.int .i64 0]) zeroValue84 Z Z<|fun i9=>ax Z<|zx sizeOf84 Z Z Z Z Z Z .head Z<|zt (yo (t:=9) Z .head)<|z6<|ao<|aw jj Z Y4 Z Z<|aT Yb Z<|aa Z<|z8 (dj k Z5 Zx Z Z Z hev)<|aw Zi Z sizeOf71 Z Z<|aN isAgg71 Z<|z6<|zk<|ao<|az Z Z<|ab Z<|z6<|zp Z (fun c0=>?_) (fun c0=>?_)
    ·have c0:lW f k=0:=hty.trans (by simpa using c0)
     rw[show l8 f k a=a.int by unfold l8;rw[if_pos c0]] at sI
     have eB:=kB (by unfold l9;rw[if_pos c0])
     have eA:=kA (by unfold k7;rw[if_pos c0])
     refine zo (fun j=>Nat.beq j 8) (by kernel_rfl) Z (zq (.r (.rest _)))<|ad 0 Z (dh Z)<|ad 1 Z (zf Z)<|ad 2 Z (za j8 Z Z3 (by decide) Z Z)<|ad 3 Z (zd (c:=.own _ _) Zc Z ⟨_,.head⟩ Z)<|ad 4 Z (cG Z)<|ad 5 Z (dV Yd Z Z0 Z Z)<|ad 6 Z (d8 Zz Z)<|bl 7 Z<|z8 (ym (j:=k) jg Z0 Z Z Z ⟨_,.head⟩ ((aO _).trans (dQ ha k)) (by omega))<|z6<|ya<|yg (i:=8) Z (by kernel_rfl) (by kernel_rfl)<|q7 (j:=k) Z0 Z Z .t1 (by rw[dQ ha];omega)<|z6<|ye (by kernel_rfl)<|bj<|aF Z Z<|aa Z<|z6 ?_
     exact ⟨k+1,qJ,aY,⟨_,(.refl _),by rw[←sI,←eB,←eA]⟩,hk2,by omega⟩
    ·have c0:¬lW f k=0:=fun h=>c0 (by rw[hty] at h;simpa using h)
     have eI:=kI (by unfold l8;rw[if_neg c0])
     refine ao<|az Z Z<|ab Z<|z6<|zp Z (fun c1=>?_) (fun c1=>?_)
     ·have c1:lW f k=1:=hty.trans (by simpa using c1)
      rw[show l9 f k a=a.b by unfold l9;rw[if_neg c0,if_pos c1]] at sB
      have eA:=kA (by unfold k7;rw[if_neg c0,if_pos c1])
      refine zo (fun j=>Nat.beq j 8) (by kernel_rfl) Z (zq (.r (.rest _)))<|ad 0 Z (dh Z)<|ad 1 Z (zf Z)<|ad 2 Z (za j8 Z Y5 (by decide) Z Z)<|ad 3 Z (zd (c:=.own _ _) Yc Z ⟨_,.head⟩ Z)<|ad 4 Z (cG Z)<|ad 5 Z (dV Yd Z Z8 Z Z)<|ad 6 Z (qi (c:=.bool _) Ye Z)<|bl 7 Z<|z8 (ym (j:=k) jk Z8 Z Z Z ⟨_,.t1⟩ ((bE _).trans (dQ ha k)) (by omega))<|z6<|ya<|yg (i:=8) Z (by kernel_rfl) (by kernel_rfl)<|ak.storeB (j:=k) Z8 Z Z .t2 (by rw[dQ ha];omega)<|z6<|ye (by kernel_rfl)<|bj<|aF Z Z<|aa Z<|z6 ?_
      exact ⟨k+1,qJ,aY,⟨_,(.refl _),by rw[←sB,←eI,←eA]⟩,hk2,by omega⟩
     ·have c1:¬lW f k=1:=fun h=>c1 (by rw[hty] at h;simpa using h)
      rw[show k7 f k a=a.arr by unfold k7;rw[if_neg c0,if_neg c1]] at sA
      have eB:=kB (by unfold l9;rw[if_neg c0,if_neg c1])
      refine zo (fun j=>Nat.beq j 8) (by kernel_rfl) Z (zq (.r (.rest _)))<|ad 0 Z (dh Z)<|ad 1 Z (zf Z)<|ad 2 Z (za j8 Z jn (by decide) Z Z)<|ad 3 Z (zd (c:=.own _ _) js Z ⟨_,.head⟩ Z)<|ad 4 Z (cG Z)<|ad 5 Z (dV Yd Z j7 Z Z)<|ad 6 Z (d8 je Z)<|bl 7 Z<|z8 (ym (j:=k) j6 j7 Z Z Z ⟨_,.t2⟩ ((aO _).trans (dQ ha k)) (by omega))<|z6<|ya<|yg (i:=8) Z (by kernel_rfl) (by kernel_rfl)<|q7 (j:=k) j7 Z Z .t3 (by rw[dQ ha];omega)<|z6<|ye (by kernel_rfl)<|bj<|aF Z Z<|aa Z<|z6 ?_
      exact ⟨k+1,qJ,aY,⟨_,(.refl _),by rw[←sA,←eI,←eB]⟩,hk2,by omega⟩
   ·obtain rfl:k=i.args.length:=by simp at ck;omega
    rw[qt]
    refine yc<|zb<|ao<|aw Zm Z Zl Z Z<|aT Y1 Z<|aj Z2 Z<|aa Z<|z6<|zk<|yd (γ:=Nat × Nat × List Nat) [6,87,88] (fun g=>[(89,.int .i64 g.1)]) (fun g=>wO f i23 i17 i19 i21 g.2.1 jt g.2.2 (Ai (cD (l8 f) 0 f.vars.length i.args) (cD (l9 f) false f.vars.length i.args) (cD (k7 f) (-1) f.vars.length i.args) (i.arrays.take g.1))) (fun g=>g.1≤i.arrays.length∧g.2.2.length=(i.arrays.take g.1).length) (fun g=>i.arrays.length - g.1) (0,jo,[]) aY aS (⟨qr _,Z⟩) ?_
    rintro ⟨k,jo,ids⟩ ⟨hk,hids⟩
    try dsimp only at *
    refine ao<|ay Z Z<|z6<|zb<|zp Z (fun ck=>?_) (fun ck=>?_)
    ·have hk2:k<i.arrays.length:=by simp at ck;omega
     obtain ⟨r,her⟩:∃r,i.arrays[k]=r:=⟨_,rfl⟩
     have hrg:i.arrays[k]?=some r:=by rw[qo hk2,her]
     have hrl:=hr r (qv hrg)
     have hts:i.arrays.take (k+1)=i.arrays.take k++[r]:=by rw[qp hk2,her]
     have htl:(i.arrays.take k).length=k:=by rw[qw];omega
     refine zg<|zb<|zk<|ao<|z8 (dj k Z2 Z3 Z Z Z hrg)<|aT Zc Z<|z8 (BS Z)<|z6<|zo (fun j=>Nat.beq j 12) (by kernel_rfl) Z (zq (.r (.rest _)))<|ad 0 Z (dh Z)<|ad 1 Z (dh Z)<|ad 2 Z (zf Z)<|ad 3 Z (za j8 Z Zl (by decide) Z Z)<|ad 4 Z (zd (c:=.own _ _) Y1 Z ⟨_,.head⟩ Z)<|ad 6 Z (eR Z)<|bl 5 Z<|y9 (k:=1) jg Y2<|fun i98=>z6<|bl 7 Z<|yt (k:=1) jg Y2 Z Z Z Z Z (fun _=>.head) Z (by decide) (by rw[w6];exact br r) (by show (_+_)*8≤_;simp;omega) (by simp;omega)<|fun i100=>z6<|bl 8 Z<|yk (rows:=[[_]]) wS Z Z Z Z Z<|z6<|bl 9 Z<|yt (k:=1) Z2 type49 Z Z Z Z Z (fun _=>.t4) (by show _=(i.arrays.take k).length*1;rw[fh hids];omega) (by decide) Z (by show ((i.arrays.take k).length+1)*24≤_;omega) (by show (i.arrays.take k).length+1≤_;omega)<|fun i102=>z6<|yj (i:=10) Z (by kernel_rfl) (by kernel_rfl) (by kernel_rfl) (by kernel_rfl) (zf Z)<|ad 11 Z (za j8 Z Zl (by decide) Z Z)<|ya<|yg (i:=12) Z (by kernel_rfl) (by kernel_rfl)<|y8 (l:=[_]) (new:=[_,_,_,_,_,_,_,_,_,_,_,_,_,_,_,_,_,_,_,_,_,_,_]) Zl Z Z Z Z Z Z .head Z Z<|z6<|ye (by kernel_rfl)<|zy (aZ.bagIn (X':=lE (ids++[i100]) (i.arrays.take k++[r])) .t1 ((by rw[List.nil_append,w6];exact oD i100 r hids)) .t6)<|bj<|aF Z Z<|aa Z ?_
     refine z6 ?_
     exact ⟨(k+1,i102,ids++[i100]),gB,aY,⟨_,(.refl _),by dsimp only;rw[hts];exact Aj f i23 i17 i19 i21 i102 jt (s:=Ai (cD (l8 f) 0 f.vars.length i.args) (cD (l9 f) false f.vars.length i.args) (cD (k7 f) (-1) f.vars.length i.args) (i.arrays.take k)) hids i100 r _ (by simp)⟩,⟨hk2,by dsimp only;rw[hts];simp[hids]⟩,by dsimp only;omega⟩
    ·obtain rfl:k=i.arrays.length:=by simp at ck;omega
     rw[qt] at hids
     rw[qt]
     refine yc<|ao<|bd Z<|z8 (yJ Z)<|z6<|ze<|zi (x:=.po _ _) Z ?_
     exact ⟨i23,i17,i19,i21,jo,jt,ids,hids,rfl,rfl⟩
end
section
open Go.Proofs.Tryz
open Go.Proofs Go.Lib Go.Shelf Go.RowKit
variable {E:World}
set_option maxRecDepth 20000
set_option maxHeartbeats 4000000 in
theorem vz (f:ai) (i:pj) (n:Nat) (hR:ma f) (hv:f.vars.length≤1000) (hs:small f) (hi:bq f (g9 f i)) (ha:i.args.length≤f.vars.length) (hn:n≤1000000000):aV prog E 21 [.agg (bW f),.agg (mI i),.int .i64 n] (.agg (gO (fR f n (g9 f i)))):=by
 have hls:=hi.ls
 have hlr:=hi.lr
 refine zr func21 Z (by decide) Z<|ao<|yf (cs:=_) Z Z Z<|yf (cs:=_) Z Z Z<|zz (cs:=[.int .i64 0,.int .i64 0,.int .i64 0,.raw (.slice none 0 0),.int .i64 0,.int .i64 0,.int .i64 0,.int .i64 0,.int .i64 0,.int .i64 0,.int .i64 0,.int .i64 0,.int .i64 0]) zeroValue53 Z Z<|fun i6=>z6<|ao<|ac jq jl Z Z<|ac isAgg42 sizeOf42 Z Z<|yr Z (zq (.r (.rest _))) (iX f i hv ha hls hlr) ?_
 rintro r11 O11 ⟨iw,ja,jb,jc,jo,jt,ids,hids,rfl,rfl⟩
 refine z8 (yJ Z)<|z6<|zb<|ao<|ax Z<|z6<|zk<|yd (γ:=Nat × GS × Nat × Nat × List Nat) [2,6,7] (fun g=>[(8,.int .i64 g.1)]) (fun g=>wO f iw ja jb jc g.2.2.1 g.2.2.2.1 g.2.2.2.2 g.2.1++[(i6,.cells 53 [.int .i64 0,.int .i64 0,.int .i64 0,.raw (.slice none 0 0),.int .i64 0,.int .i64 0,.int .i64 0,.int .i64 0,.int .i64 0,.int .i64 0,.int .i64 0,.int .i64 0,.int .i64 0])]) (fun g=>g.1≤n∧fR f (n - g.1) g.2.1=fR f n (g9 f i)∧bq f g.2.1∧g.2.1.st≤g.1∧(∀q,g.2.1.ck q≤g.1)∧g.2.2.2.2.length=g.2.1.arrays.length) (fun g=>n - g.1) (0,g9 f i,jo,jt,ids) aY aS (⟨qr _,Z,hi,qr _,fun _=>qr _,hids⟩) ?_
 rintro ⟨k,s,jo,jt,ids⟩ ⟨hk,hrun,hg,hst,hck,hids⟩
 try dsimp only at *
 refine zb<|ao<|aa Z<|aa Z<|ay Z Z<|ah Z<|zm (s:=15) Z (fun ck=>?_) (fun ck=>?_)
 ·have hk2:k<n:=by simp at ck;omega
  refine z7 Z Z ck<|bd Z<|z7 Z Z ck<|z8 (zf Z)<|z7 Z Z ck<|z8 (za j8 Z Z8 (by decide) Z Z)<|z7 Z Z ck<|z8 (zd (c:=.bool _) Ye Z ⟨_,.head⟩ Z)<|z7 Z Z ck<|aE Z<|ap Z ck Z<|z6<|zw Z (fun ce=>?_) (fun ce=>?_)
  ·have he:s.ended=false:=by simpa using ce
   rw[show n - k=(n - (k+1))+1 by omega,fR,if_neg (by rw[he];decide)] at hrun
   refine zg<|zb<|zk<|bj<|bd Z<|yr Z (zq (.l (.l (.l (.l (.l (.l (.l (.r (.rest _)))))))))) (gN f iw ja jb jc jo jt ids s hids hg hR hv hs (by omega) (fun q=>by have:=hck q;omega)) ?_
   rintro r25 O25 ⟨jo',jt',ids',hl',rfl,rfl⟩
   refine z6<|bj<|aa Z<|aF Z Z<|ax Z<|z6 ?_
   exact ⟨(k+1,bI f s,jo',jt',ids'),gB,aY,aS,⟨hk2,hrun,hg.step hR,by rw[m6];dsimp only;omega,fun q=>Nat.le_trans (m7 f s q) (by have:=hck q;dsimp only;omega),hl'⟩,by dsimp only;omega⟩
  ·have he:s.ended=true:=by simpa using ce
   have hend:fR f n (g9 f i)=s:=by rw[←hrun];exact mB he _
   rw[hend]
   refine yc<|zb<|zy (aZ.knowIC (off:=12) .t5 .head Z Z)<|bj<|bd Z<|z8 (zf Z)<|z8 (za j8 Z jz (by decide) Z Z)<|z8 (Gv.loadAC (l:=[_,_,_,_,_,_,_,_,_,_,_,_,_]) isAgg53 jz Z ⟨_,.head⟩ Z Z)<|zx jz Z Z Z Z Z Z .t6 Z<|z6<|ze<|bM.c1 Z ⟨_,.t6⟩ isAgg53 jz Z ?_
   rfl
 ·have hk2:k=n:=by simp at ck;omega
  have hend:fR f n (g9 f i)=s:=by rw[←hrun,hk2,Nat.sub_self];rfl
  rw[hend]
  refine z2 Z Z ck<|z2 Z Z ck<|z2 Z Z ck<|z2 Z Z ck<|z2 Z Z ck<|aq Z ck Z<|z6<|yv Z Z<|yc<|zb<|zy (aZ.knowIC (off:=12) .t5 .head Z Z)<|bj<|bd Z<|z8 (zf Z)<|z8 (za j8 Z jz (by decide) Z Z)<|z8 (Gv.loadAC (l:=[_,_,_,_,_,_,_,_,_,_,_,_,_]) isAgg53 jz Z ⟨_,.head⟩ Z Z)<|zx jz Z Z Z Z Z Z .t6 Z<|z6<|ze<|bM.c1 Z ⟨_,.t6⟩ isAgg53 jz Z ?_
  rfl
theorem oF (f:ai) (i:pj) (hp:f.params.length≤f.vars.length) (hl:i.args.length≤281474976710656) (hl2:i.arrays.length≤281474976710656):aV prog E 14 [.agg (bW f),.agg (mI i)] (.int .i64 (eY f i)):=by
 refine zr func14 Z (by decide) Z<|ao<|yf (cs:=_) Z Z Z<|yf (cs:=_) Z Z Z<|ax Z<|z6<|zb<|ao<|aw Zm Z sizeOf39 Z Z<|aT isAgg39 Z<|aj Y7 Z<|aw jj Z jn Z Z<|aT js Z<|aj j6 Z<|z8 (yl Z Z)<|z6<|zw Z (fun c1=>?_) (fun c1=>?_)
 ·have c1:¬i.args.length=f.params.length:=by simp at c1;omega
  refine ao<|ax Z<|z6<|ze<|zi (x:=.int _ _) Z ?_
  unfold eY;rw[if_pos c1]
 ·have c1:i.args.length=f.params.length:=by simp at c1;omega
  refine zg<|zb<|ao<|aw Zm Z sizeOf39 Z Z<|aT isAgg39 Z<|aj Y7 Z<|aa Z<|z6<|zk<|yd (γ:=Nat) [2,3,17,18] (fun k=>[(19,.int .i64 k)]) (fun k=>[]) (fun k=>k≤i.args.length∧∀(j:Nat) a,j<k→i.args[j]?=some a→eX f i (a,j)=false) (fun k=>i.args.length - k) 0 aY aS (⟨qr _,fun j a h=>absurd h (Nat.not_lt_zero _)⟩) ?_
  rintro k ⟨hk,hok⟩
  refine ao<|ay Z Z<|z6<|zb<|zp Z (fun ck=>?_) (fun ck=>?_)
  ·have hk2:k<i.args.length:=by simp at ck;omega
   obtain ⟨a,hea⟩:∃a,i.args[k]=a:=⟨_,rfl⟩
   have hag:i.args[k]?=some a:=by rw[qo hk2,hea]
   obtain ⟨v,hev⟩:∃v,f.vars[k]?=some v:=⟨_,qo (by omega)⟩
   have hty:lW f k=v.ty:=by unfold lW;rw[hev];rfl
   refine zg<|zb<|zk<|ao<|aa Z<|z8 (dj k Y7 sizeOf84 Z Z Z hag)<|ac isAgg84 sizeOf84 Z Z<|zz (cs:=[.int .i64 0,.bool false,.int .i64 0]) zeroValue84 Z Z<|fun i6=>ax Z<|zx sizeOf84 Z Z Z Z Z Z .head Z<|zt (yo (t:=6) Z .head)<|z6<|zb<|yp (γ:=Bool) [2,3,17,18,19] (fun z=>[(43,.bool z)]) (fun z=>[]) (fun z=>z=eX f i (a,k)) ?_ (fun _ _ h=>h) ?_
   ·refine bj<|aw jj Z Y4 Z Z<|aT Yb Z<|aa Z<|z8 (dj k Z5 Zx Z Z Z hev)<|aw Zi Z sizeOf71 Z Z<|aN isAgg71 Z<|az Z Z<|ah Z<|zm (s:=31) Z (fun c2=>?_) (fun c2=>?_)
    ·have d2:lW f k=2:=hty.trans (by simpa using c2)
     refine z7 Z Z c2<|aw Yd Z j7 Z Z<|z7 Z Z c2<|aN je Z<|z7 Z Z c2<|ay Z Z<|z7 Z Z c2<|ah Z<|zm (s:=35) Z (fun c3=>?_) (fun c3=>?_)
     ·have d3:a.arr < -1:=by simpa using c3
      refine z2 Z Z c3<|z2 Z Z c3<|z2 Z Z c3<|z2 Z Z c3<|z2 Z Z c3<|z2 Z Z c3<|z7 Z Z c2<|ap Z c3 Z<|ap Z c2 Z<|z6 ?_
      exact ⟨_,qJ,aY,aS,by unfold eX;simp[d2,d3]⟩
     ·have d3:¬a.arr < -1:=by simpa using c3
      refine z7 Z Z c3<|aw Yd Z j7 Z Z<|z7 Z Z c3<|aN je Z<|z7 Z Z c3<|aw Zm Z Zl Z Z<|z7 Z Z c3<|aT Y1 Z<|z7 Z Z c3<|aj Z2 Z<|z7 Z Z c3<|z8 (qg Z Z)<|z7 Z Z c2<|aq Z c3 Z<|ap Z c2 Z<|z6 ?_
      exact ⟨_,qJ,aY,aS,by unfold eX;simp[d2,d3]⟩
    ·have d2:¬lW f k=2:=fun h=>by rw[hty] at h;simp[h] at c2
     refine z2 Z Z c2<|z2 Z Z c2<|z2 Z Z c2<|z2 Z Z c2<|zc Z Z<|zc Z Z<|zc Z Z<|zc Z Z<|zc Z Z<|zc Z Z<|z2 Z Z c2<|aq Z c2 Z<|z6 ?_
     exact ⟨_,qJ,aY,aS,by unfold eX;simp[d2]⟩
   ·rintro z hz
    refine zw Z (fun cz=>?_) (fun cz=>?_)
    ·have hb:i.args.zipIdx.any (eX f i)=true:=List.any_eq_true.2 ⟨(a,k),qv (i:=k) (by rw[List.getElem?_zipIdx,hag];simp),hz.symm.trans cz⟩
     refine ao<|ax Z<|z6<|ze<|zi (x:=.int _ _) Z ?_
     unfold eY;rw[if_neg (fun h=>h c1),if_pos hb]
    ·refine zg<|bj<|aF Z Z<|aa Z<|z6 ?_
     exact ⟨k+1,f0,aY,aS,⟨hk2,fun j b hj hb=>by rcases (by omega:j<k∨j=k) with h|rfl;exact hok j b h hb;rw[hag] at hb;cases hb;exact hz.symm.trans cz⟩,by omega⟩
  ·obtain rfl:k=i.args.length:=by simp at ck;omega
   have hb:¬i.args.zipIdx.any (eX f i)=true:=fun h=>by
    obtain ⟨⟨a,j⟩,hm,hh⟩:=List.any_eq_true.1 h
    obtain ⟨hj,e⟩:=List.mk_mem_zipIdx_iff_getElem?.1 hm |> fun h=>(⟨(List.getElem?_eq_some_iff.1 h).1,h⟩:j<i.args.length∧_)
    rw[hok j a hj e] at hh;cases hh
   refine yc<|zb<|ao<|aw Zm Z Zl Z Z<|aT Y1 Z<|aj Z2 Z<|z8 (q3 Z Z)<|z6<|zp Z (fun c32=>?_) (fun c32=>?_)
   ·have c32:32<i.arrays.length:=by omega
    refine ao<|ax Z<|z6<|ze<|zi (x:=.int _ _) Z ?_
    unfold eY;rw[if_neg (fun h=>h c1),if_neg hb,if_pos c32]
   ·have c32:¬32<i.arrays.length:=by omega
    refine zg<|zb<|ao<|aw Zm Z Zl Z Z<|aT Y1 Z<|aj Z2 Z<|aa Z<|z6<|zk<|yd (γ:=Nat) [50,51] (fun k=>[(52,.int .i64 k)]) (fun k=>[]) (fun k=>k≤i.arrays.length∧∀r∈i.arrays.take k,decide (64<r.length)=false) (fun k=>i.arrays.length - k) 0 aY aS (⟨qr _,fun r h=>by simp at h⟩) ?_
    rintro k ⟨hk,hok⟩
    refine ao<|ay Z Z<|z6<|zb<|zp Z (fun ck=>?_) (fun ck=>?_)
    ·have hk2:k<i.arrays.length:=by simp at ck;omega
     obtain ⟨r,her⟩:∃r,i.arrays[k]=r:=⟨_,rfl⟩
     have hrg:i.arrays[k]?=some r:=by rw[qo hk2,her]
     refine zg<|zb<|zk<|ao<|z8 (dj k Z2 Z3 Z Z Z hrg)<|aT Zc Z<|z8 (BS Z)<|z6<|ao<|z8 (eR Z)<|aj jg Z<|z8 (q3 Z Z)<|z6<|zp Z (fun cr=>?_) (fun cr=>?_)
     ·have cr:64<r.length:=by omega
      have hb4:i.arrays.any (fun r=>decide (64<r.length))=true:=List.any_eq_true.2 ⟨r,qv hrg,qx cr⟩
      refine ao<|ax Z<|z6<|ze<|zi (x:=.int _ _) Z ?_
      unfold eY;rw[if_neg (fun h=>h c1),if_neg hb,if_neg c32,if_pos hb4]
     ·have cr:¬64<r.length:=by omega
      refine zg<|bj<|aF Z Z<|aa Z<|z6 ?_
      exact ⟨k+1,dX,aY,aS,⟨hk2,fun q hq=>by rw[qp hk2] at hq;rcases List.mem_append.1 hq with hq|hq;exact hok q hq;rw[List.mem_singleton.1 hq,her];exact qy cr⟩,by omega⟩
    ·obtain rfl:k=i.arrays.length:=by simp at ck;omega
     rw[qt] at hok
     have hb4:¬i.arrays.any (fun r=>decide (64<r.length))=true:=fun h=>by
      obtain ⟨r,hm,hh⟩:=List.any_eq_true.1 h
      rw[hok r hm] at hh;cases hh
     refine yc<|ao<|ax Z<|z6<|ze<|zi (x:=.int _ _) Z ?_
     unfold eY;rw[if_neg (fun h=>h c1),if_neg hb,if_neg c32,if_neg hb4]
theorem pL (a b:GS) (hl:a.trace.length≤281474976710656):aV prog E 32 [.agg (gO a),.agg (gO b)] (.bool (iG a b)):=by
 refine zr func32 Z (by decide) Z<|ao<|yf (cs:=_) Z Z Z<|yf (cs:=_) Z Z Z<|ab Z<|z6<|zb<|zb<|yp (γ:=Bool) [2,3] (fun z=>[(33,.bool z)]) (fun z=>[]) (fun z=>z=!decide (a.en=b.en∧a.val=b.val∧a.tr=b.tr∧a.trace.length=b.trace.length)) ?_ (fun _ _ h=>h) ?_
 ·refine bj<|aw jf Z sizeOf50 Z Z<|aN isAgg50 Z<|aw jf Z sizeOf50 Z Z<|aN isAgg50 Z<|z8 (yl Z Z)<|ah Z<|zm (s:=11) Z (fun c1=>?_) (fun c1=>?_)
  ·have d1:¬a.en=b.en:=by simpa using c1
   refine z2 Z Z c1<|z2 Z Z c1<|z2 Z Z c1<|z2 Z Z c1<|z2 Z Z c1<|ap Z c1 Z<|ah Z<|z2 Z Z Z<|z2 Z Z Z<|z2 Z Z Z<|z2 Z Z Z<|z2 Z Z Z<|ap Z Z Z<|ah Z<|z2 Z Z Z<|z2 Z Z Z<|z2 Z Z Z<|z2 Z Z Z<|z2 Z Z Z<|z2 Z Z Z<|z2 Z Z Z<|ap Z Z Z<|z6 ?_
   exact ⟨_,dX,aY,aS,by simp[d1]⟩
  ·have d1:a.en=b.en:=by simpa using c1
   refine z7 Z Z c1<|aw jf Z Z0 Z Z<|z7 Z Z c1<|aN Zz Z<|z7 Z Z c1<|aw jf Z Z0 Z Z<|z7 Z Z c1<|aN Zz Z<|z7 Z Z c1<|z8 (yl Z Z)<|aq Z c1 Z<|ah Z<|zm (s:=18) Z (fun c2=>?_) (fun c2=>?_)
   ·have d2:¬a.val=b.val:=by simpa using c2
    refine z2 Z Z c2<|z2 Z Z c2<|z2 Z Z c2<|z2 Z Z c2<|z2 Z Z c2<|ap Z c2 Z<|ah Z<|z2 Z Z Z<|z2 Z Z Z<|z2 Z Z Z<|z2 Z Z Z<|z2 Z Z Z<|z2 Z Z Z<|z2 Z Z Z<|ap Z Z Z<|z6 ?_
    exact ⟨_,dX,aY,aS,by simp[d2]⟩
   ·have d2:a.val=b.val:=by simpa using c2
    refine z7 Z Z c2<|aw jf Z sizeOf51 Z Z<|z7 Z Z c2<|aN isAgg51 Z<|z7 Z Z c2<|aw jf Z sizeOf51 Z Z<|z7 Z Z c2<|aN isAgg51 Z<|z7 Z Z c2<|z8 (yl Z Z)<|aq Z c2 Z<|ah Z<|zm (s:=25) Z (fun c3=>?_) (fun c3=>?_)
    ·have d3:¬a.tr=b.tr:=by simpa using c3
     refine z2 Z Z c3<|z2 Z Z c3<|z2 Z Z c3<|z2 Z Z c3<|z2 Z Z c3<|z2 Z Z c3<|z2 Z Z c3<|ap Z c3 Z<|z6 ?_
     exact ⟨_,dX,aY,aS,by simp[d3]⟩
    ·have d3:a.tr=b.tr:=by simpa using c3
     refine z7 Z Z c3<|aw jf Z Z3 Z Z<|z7 Z Z c3<|aT Zc Z<|z7 Z Z c3<|aj jg Z<|z7 Z Z c3<|aw jf Z Z3 Z Z<|z7 Z Z c3<|aT Zc Z<|z7 Z Z c3<|aj jg Z<|z7 Z Z c3<|z8 (yl Z Z)<|aq Z c3 Z<|z6 ?_
     exact ⟨_,dX,aY,aS,by simp[d1,d2,d3];omega⟩
 ·rintro z hz
  refine zw Z (fun cz=>?_) (fun cz=>?_)
  ·have cz:¬(a.en=b.en∧a.val=b.val∧a.tr=b.tr∧a.trace.length=b.trace.length):=by intro h;rw[hz,qx h] at cz;cases cz
   refine ao<|ab Z<|z6<|ze<|zi (x:=.bool _) Z ?_
   unfold iG;rw[qy];rintro ⟨h1,h2,h3,h4⟩;exact cz ⟨h1,h2,h3,by rw[h4]⟩
  ·have cz:a.en=b.en∧a.val=b.val∧a.tr=b.tr∧a.trace.length=b.trace.length:=Classical.byContradiction fun h=>by rw[hz,qy h] at cz;cases cz
   refine zg<|zb<|ao<|aw jf Z Z3 Z Z<|aT Zc Z<|aj jg Z<|aa Z<|z6<|zk<|yd (γ:=Nat) [2,3,36] (fun k=>[(37,.int .i64 k)]) (fun k=>[]) (fun k=>k≤a.trace.length∧a.trace.take k=b.trace.take k) (fun k=>a.trace.length - k) 0 aY aS (⟨qr _,by simp⟩) ?_
   rintro k ⟨hk,hok⟩
   refine ao<|ay Z Z<|z6<|zb<|zp Z (fun ck=>?_) (fun ck=>?_)
   ·have hk2:k<a.trace.length:=by simp at ck;omega
    have hk3:k<b.trace.length:=by omega
    refine zg<|zb<|zk<|ao<|aa Z<|ax Z<|z6<|zb<|zo (fun j=>false) (by kernel_rfl) Z (zq (.rest _))<|ad 0 Z (dV jf Z Z3 Z Z)<|ad 1 Z (jH Zc Z)<|ad 2 Z (cG Z)<|ad 3 Z (dj k jg Z0 Z Z Z (qo hk2))<|ad 4 Z (d8 Zz Z)<|ad 5 Z (dV jf Z Z3 Z Z)<|ad 6 Z (jH Zc Z)<|ad 7 Z (cG Z)<|ad 8 Z (dj k jg Z0 Z Z Z (qo hk3))<|ad 9 Z (d8 Zz Z)<|ad 10 Z (yl Z Z)<|dU<|zw Z (fun cn=>?_) (fun cn=>?_)
    ·have cn:¬a.trace[k]=b.trace[k]:=by simpa using cn
     refine ao<|ab Z<|z6<|ze<|zi (x:=.bool _) Z ?_
     unfold iG;rw[qy];rintro ⟨h1,h2,h3,h4⟩;exact cn (by simp only[h4])
    ·have cn:a.trace[k]=b.trace[k]:=by simpa using cn
     refine zg<|bj<|aF Z Z<|aa Z<|z6 ?_
     exact ⟨k+1,gB,aY,aS,⟨hk2,by rw[qp hk2,qp hk3,hok,cn]⟩,by omega⟩
   ·obtain rfl:k=a.trace.length:=by simp at ck;omega
    have ht:a.trace=b.trace:=by rw[qt] at hok;rw[hok,cz.2.2.2,qt]
    refine yc<|ao<|ab Z<|z6<|ze<|zi (x:=.bool _) Z ?_
    unfold iG;rw[qx];exact ⟨cz.1,cz.2.1,cz.2.2.1,ht⟩
end
section
open Go.Proofs.Tryz
open Go.Proofs Go.Lib Go.Shelf Go.RowKit
variable {E:World}
set_option maxRecDepth 20000
def eV (i:pj):Bool:=decide (i.args.length≤20)&&(decide (i.arrays.length≤40)&&i.arrays.all fun r=>decide (r.length≤100))
theorem nr (i:pj) (hl:i.args.length≤9223372036854775807) (hl2:i.arrays.length≤9223372036854775807):aV prog E 13 [.agg (mI i)] (.bool (eV i)):=by
 refine zr func13 Z (by decide) Z<|ao<|yf (cs:=_) Z Z Z<|ab Z<|z6<|zb<|ao<|aw Zm Z sizeOf39 Z Z<|aT isAgg39 Z<|aj Y7 Z<|z8 (q3 Z Z)<|ah Z<|zm (s:=9) Z (fun c1=>?_) (fun c1=>?_)
 ·refine z2 Z Z c1<|z2 Z Z c1<|z2 Z Z c1<|z2 Z Z c1<|ap Z c1 Z<|z6<|yq Z Z<|ao<|ab Z<|z6<|ze<|zi (x:=.bool _) Z ?_
  unfold eV;rw[qy (fun h=>by simp at c1;omega)];rfl
 ·have h1:i.args.length≤20:=by simp at c1;omega
  refine z7 Z Z c1<|aw Zm Z Zl Z Z<|z7 Z Z c1<|aT Y1 Z<|z7 Z Z c1<|aj Z2 Z<|z7 Z Z c1<|z8 (q3 Z Z)<|aq Z c1 Z<|z6<|zw Z (fun c2=>?_) (fun c2=>?_)
  ·refine ao<|ab Z<|z6<|ze<|zi (x:=.bool _) Z ?_
   unfold eV;rw[qx h1,qy (fun h=>by simp at c2;omega)];rfl
  ·have h2:i.arrays.length≤40:=by simp at c2;omega
   refine zg<|zb<|ao<|aw Zm Z Zl Z Z<|aT Y1 Z<|aj Z2 Z<|aa Z<|z6<|zk<|yd (γ:=Nat) [16,17] (fun k=>[(18,.int .i64 k)]) (fun k=>[]) (fun k=>k≤i.arrays.length∧∀r∈i.arrays.take k,r.length≤100) (fun k=>i.arrays.length - k) 0 aY aS (⟨qr _,fun _ h=>by cases h⟩) ?_
   rintro k ⟨hk,hall⟩
   refine ao<|ay Z Z<|z6<|zb<|zp Z (fun ck=>?_) (fun ck=>?_)
   ·have hk2:k<i.arrays.length:=by omega
    refine zg<|zb<|zk<|ao<|z8 (dj k Z2 Z3 Z Z Z (qo hk2))<|aT Zc Z<|z8 (BS Z)<|z6<|ao<|z8 (eR Z)<|aj jg Z<|z8 (q3 Z Z)<|z6<|zp Z (fun cr=>?_) (fun cr=>?_)
    ·refine ao<|ab Z<|z6<|ze<|zi (x:=.bool _) Z ?_
     unfold eV;rw[qx h1,qx h2,Bool.true_and,Bool.true_and];exact jb (List.all_eq_false.2 ⟨i.arrays[k],qs hk2,by simp;omega⟩).symm
    ·have hall2:∀r∈i.arrays.take (k+1),r.length≤100:=fun r hr=>by
      rw[qp hk2] at hr
      rcases List.mem_append.1 hr with h|h
      ·exact hall r h
      ·rw[List.mem_singleton.1 h];omega
     refine zg<|bj<|aF Z Z<|aa Z<|z6 ?_
     exact ⟨k+1,dX,aY,aS,⟨hk2,hall2⟩,by omega⟩
   ·obtain rfl:k=i.arrays.length:=by omega
    rw[qt] at hall
    refine yc<|ao<|ab Z<|z6<|ze<|zi (x:=.bool _) Z ?_
    unfold eV;rw[qx h1,qx h2,Bool.true_and,Bool.true_and];exact jb (List.all_eq_true.2 fun r hr=>qx (hall r hr)).symm
end
end Go.Proofs.YtbconpmnckokoaaGreatDoor
