/- Numbers of 16 and of 64 bits, as a call is handed them. No conditions. -/
import Derived.Test.YtdilpodccjlkgaaGreatDoorJy
import Derived.Test.YtdilpodccjlkgaaGreatDoorJn
import Derived.Test.YtdilpodccjlkgaaGreatDoorJv
import Derived.Test.YtdilpodccjlkgaaGreatDoorJh
import Derived.Test.YtdilpodccjlkgaaGreatDoorJb
import Derived.Test.YtdilpodccjlkgaaGreatDoorJc
import Derived.Lib.LaidRTab
import Derived.Test.YtdilpodccjlkgaaGreatDoorRows
import Derived.Test.YtdilpodccjlkgaaGreatDoorChecked
import Derived.ProofKit
import Derived.JoinedOf
set_option linter.unusedVariables false
set_option linter.unusedSimpArgs false
set_option linter.unusedSectionVars false
namespace Go.Proofs.YtdilpodccjlkgaaGreatDoor
open Go.Proofs.Tryz
open Go.Proofs Go.Lib Go.Shelf Go.RowKit
theorem Cf:dE prog 99 #[(0,3),(3,1),(4,1),(5,1),(6,1),(7,1),(8,1),(9,13),(22,1)] [.raw (.slice none 0 0),.raw (.slice none 0 0),.raw (.slice none 0 0),.raw (.slice none 0 0),.raw (.slice none 0 0),.raw (.slice none 0 0),.raw (.slice none 0 0),.int .i64 0,.int .i64 0,.int .i64 0,.int .i64 0,.int .i64 0,.raw (.slice none 0 0),.int .i64 0,.int .i64 0,.int .i64 0,.int .i64 0,.int .i64 0,.int .i64 0,.int .i64 0,.int .i64 0,.int .i64 0,.bool false]:=⟨_,_,j9,zeroValue99,fun w=>by kernel_rfl,rfl⟩
variable {E:World}
set_option maxRecDepth 20000
def Eg (a:xG):List AV:=[.int .i64 a.int,.bool a.b,.int .i64 a.arr]
def Eh (r:List Int):List AV:=[.fro 1 (r.map da)]
def sX (i:xH):List AV:=[.fro 3 (i.args.map Eg),.fro 1 (i.arrays.map Eh)]
def l3 (n k:Nat):List Int:=List.replicate k (-1)++List.replicate (n - k) 0
theorem FS (n:Nat):l3 n 0=List.replicate n 0:=by unfold l3;simp
theorem FT (n:Nat):l3 n n=List.replicate n (-1):=by unfold l3;simp
theorem sY {n k:Nat} (h:k≤n):(l3 n k).length=n:=by unfold l3;simp;omega
theorem Cg {n k:Nat} (h:k<n):(l3 n k).set k (-1)=l3 n (k+1):=by
 unfold l3
 rw[List.set_append_right _ _ (by simp),List.length_replicate,Nat.sub_self,show n - k=(n - (k+1))+1 by omega,List.replicate_succ,List.set_cons_zero,List.replicate_succ',qv];rfl
section
variable {α β:Type} {g:Nat→α→β} {d:β} {n k:Nat} {l:List α}
theorem yN:dR g d n (l.take 0)=List.replicate n d:=by unfold dR;simp
theorem Ei (h:l.length≤n):(dR g d n l).length=n:=by unfold dR;simp;omega
theorem gj (h:l.length≤n) (k:Nat):(dR g d n (l.take k)).length=n:=Ei (by rw[w7];omega)
theorem m7 (hk:k<l.length) (h:l.length≤n):(dR g d n (l.take k)).set k (g k l[k])=dR g d n (l.take (k+1)):=by
 have hl:((l.take k).zipIdx.map fun q=>g q.2 q.1).length=k:=by simp;omega
 unfold dR
 rw[List.set_append_right _ _ (by rw[hl];exact Nat.le_refl _),hl,Nat.sub_self,w7,w7,Nat.min_eq_left (by omega),Nat.min_eq_left (by omega),show n - k=(n - (k+1))+1 by omega,List.replicate_succ,List.set_cons_zero,qu hk,List.zipIdx_append,w5,qv]
 have:(l.take k).length=k:=by rw[w7];omega
 simp[this]
theorem nP (hk:k<l.length) (h:l.length≤n) (e:g k l[k]=d):dR g d n (l.take k)=dR g d n (l.take (k+1)):=by
 rw[←m7 hk h,e]
 refine (List.ext_getElem? fun j=>?_)
 by_cases hj:k=j
 ·subst hj
  rw[List.getElem?_set_self (by rw[gj h];omega)]
  have hl:((l.take k).zipIdx.map fun q=>g q.2 q.1).length=k:=by simp;omega
  unfold dR
  rw[List.getElem?_append_right (by rw[hl];exact Nat.le_refl _),hl,Nat.sub_self,w7,Nat.min_eq_left (by omega),List.getElem?_replicate,if_pos (by omega)]
 ·rw[List.getElem?_set_ne hj]
end
theorem Ej (r:List Int):(r.map da).flatten=cI r:=oN r
abbrev FU (ints:List Int) (bools:List Bool) (arrs:List Int) (arrays:List (List Int)):GS:=⟨ints,bools,arrs,arrays,0,0,3,0,0,[],0,fun _=>0,false⟩
theorem FV (f:ac) (iw ja jb jc jo jt:Nat) {ids:List Nat} {s:GS} (h:ids.length=s.arrays.length) (i:Nat) (r:List Int) (m:Nat) (hm:m=r.length):(iw,bA.cells 99 (bD f++[.own ja f.vars.length,.own jb f.vars.length,.own jc f.vars.length,.own jo (s.arrays.length+1),.int .i64 s.blk,.int .i64 s.pc,.int .i64 s.en,.int .i64 s.val,.int .i64 s.tr,.own jt s.trace.length,.int .i64 s.st,.int .i64 (s.ck 0),.int .i64 (s.ck 1),.int .i64 (s.ck 2),.int .i64 (s.ck 3),.int .i64 (s.ck 4),.int .i64 (s.ck 5),.int .i64 (s.ck 6),.int .i64 (s.ck 7),.bool s.ended]))::(ja,.grow 1 2 (cI s.ints))::(jb,.grow 1 4 (cB s.bools))::(jc,.grow 1 3 (cI s.arrs))::(jo,.grow 1 87 (im ids s.arrays++[.own i m]))::(jt,.grow 1 2 (cI s.trace))::[(0,FN (rv (ids++[i]) (s.arrays++[r])))]=wO f iw ja jb jc jo jt (ids++[i]) { s with arrays:=s.arrays++[r] }:=by
 subst hm
 unfold wO wR FP
 rw[←sW i r h]
 simp only[qz,List.length_singleton]
set_option maxHeartbeats 16000000 in
theorem wC (f:ac) (i:xH) (hv:f.vars.length≤1000) (ha:i.args.length≤f.vars.length) (hn:i.arrays.length≤40) (hr:∀r∈i.arrays,r.length≤100):aZ prog E 30 [.agg (bD f),.agg (sX i)] [] (fun y O=>∃iw ja jb jc jo jt ids,ids.length=i.arrays.length∧y=.po iw 0∧O=wO f iw ja jb jc jo jt ids (k8 f i)):=by
 refine zp func30 Z (by decide) Z<|ai<|y9 (cs:=_) Z Z Z<|y9 (cs:=_) Z Z Z<|za (jK Z)<|z6<|ai<|au jg Z Yc Z Z<|aI Yn Z<|ap Z9 Z<|ak Z<|z6<|zd<|ye (γ:=Nat × Nat × Nat × Nat) [2,3] (fun g=>[(6,.po g.1 0)]) (fun g=>[(g.1,.cells 99 (bD f++[.own g.2.1 f.vars.length,.own g.2.2.1 f.vars.length,.own g.2.2.2 f.vars.length,.raw (.slice none 0 0),.int .i64 0,.int .i64 0,.int .i64 0,.int .i64 0,.int .i64 0,.raw (.slice none 0 0),.int .i64 0,.int .i64 0,.int .i64 0,.int .i64 0,.int .i64 0,.int .i64 0,.int .i64 0,.int .i64 0,.int .i64 0,.bool false])),(g.2.1,.grow 1 2 (cI (List.replicate f.vars.length 0))),(g.2.2.1,.grow 1 4 (cB (List.replicate f.vars.length false))),(g.2.2.2,.grow 1 3 (cI (List.replicate f.vars.length 0)))]) (fun g=>True) ?_ (fun _ _ h=>h) ?_
 ·refine zr (fun j=>false) (by kernel_rfl) Z (zj (.rest _))<|ad 0 Z (yx jv jj Z Z)<|ad 1 Z (cD Z)<|ad 3 Z (cD Z)<|ad 5 Z (cD Z)<|bO.three (i:=2) (j:=4) (m:=6) Z Z Z (by kernel_rfl) ?_ ?_ ?_
  ·refine qf (m:=f.vars.length) jw X7 Z Z Z Z Z (by simp) (by simp) (by show (8:Int)*_≤_;omega) (by omega)<|fun i17=>z6<|yr (i:=4) (j:=6) Z Z (by kernel_rfl) ?_ ?_
   ·refine az.makeB (m:=f.vars.length) jk Yp Z Z Z Z Z (by simp) (by simp) (by show (1:Int)*_≤_;omega) (by omega)<|fun i19=>z6<|aQ 6 Z<|qf (m:=f.vars.length) wy Zz Z Z Z Z Z (by simp) (by simp) (by show (8:Int)*_≤_;omega) (by omega)<|fun i21=>z6<|ad 7 Z (y4 (cps:=[(0,[_,_,_]),(1,[_]),(2,[_]),(3,[_])]) (rs:=[_,_,_,_,_,_,.raw (.slice none 0 0),.int .i64 0,.int .i64 0,.int .i64 0,.int .i64 0,.int .i64 0,.raw (.slice none 0 0),.int .i64 0,.int .i64 0,.int .i64 0,.int .i64 0,.int .i64 0,.int .i64 0,.int .i64 0,.int .i64 0,.int .i64 0,.bool false]) Cf Z Z Z)<|aQ 8 Z<|yn (cs:=_) Z Z Z Z<|fun i23=>ze (zb (zc .t1))<|ze (zb (zc .t2))<|ze (zb (zc .t3))<|ze (zb (zc .t3))<|z6<|ad 9 Z (fZ Z)<|bJ ?_
    exact ⟨(i23,i17,i19,i21),eh,aK,aH,trivial⟩
   ·refine qf (m:=f.vars.length) wy Zz Z Z Z Z Z (by simp) (by simp) (by show (8:Int)*_≤_;omega) (by omega)<|fun i21=>z6<|aQ 4 Z<|az.makeB (m:=f.vars.length) jk Yp Z Z Z Z Z (by simp) (by simp) (by show (1:Int)*_≤_;omega) (by omega)<|fun i19=>z6<|ad 7 Z (y4 (cps:=[(0,[_,_,_]),(1,[_]),(2,[_]),(3,[_])]) (rs:=[_,_,_,_,_,_,.raw (.slice none 0 0),.int .i64 0,.int .i64 0,.int .i64 0,.int .i64 0,.int .i64 0,.raw (.slice none 0 0),.int .i64 0,.int .i64 0,.int .i64 0,.int .i64 0,.int .i64 0,.int .i64 0,.int .i64 0,.int .i64 0,.int .i64 0,.bool false]) Cf Z Z Z)<|aQ 8 Z<|yn (cs:=_) Z Z Z Z<|fun i23=>ze (zb (zc .t2))<|ze (zb (zc .t2))<|ze (zb (zc .t3))<|ze (zb (zc .t3))<|z6<|ad 9 Z (fZ Z)<|bJ ?_
    exact ⟨(i23,i17,i19,i21),eh,aK,aH,trivial⟩
  ·refine az.makeB (m:=f.vars.length) jk Yp Z Z Z Z Z (by simp) (by simp) (by show (1:Int)*_≤_;omega) (by omega)<|fun i19=>z6<|yr (i:=2) (j:=6) Z Z (by kernel_rfl) ?_ ?_
   ·refine qf (m:=f.vars.length) jw X7 Z Z Z Z Z (by simp) (by simp) (by show (8:Int)*_≤_;omega) (by omega)<|fun i17=>z6<|aQ 6 Z<|qf (m:=f.vars.length) wy Zz Z Z Z Z Z (by simp) (by simp) (by show (8:Int)*_≤_;omega) (by omega)<|fun i21=>z6<|ad 7 Z (y4 (cps:=[(0,[_,_,_]),(1,[_]),(2,[_]),(3,[_])]) (rs:=[_,_,_,_,_,_,.raw (.slice none 0 0),.int .i64 0,.int .i64 0,.int .i64 0,.int .i64 0,.int .i64 0,.raw (.slice none 0 0),.int .i64 0,.int .i64 0,.int .i64 0,.int .i64 0,.int .i64 0,.int .i64 0,.int .i64 0,.int .i64 0,.int .i64 0,.bool false]) Cf Z Z Z)<|aQ 8 Z<|yn (cs:=_) Z Z Z Z<|fun i23=>ze (zb (zc .t1))<|ze (zb (zc .t3))<|ze (zb (zc .t3))<|ze (zb (zc .t3))<|z6<|ad 9 Z (fZ Z)<|bJ ?_
    exact ⟨(i23,i17,i19,i21),eh,aK,aH,trivial⟩
   ·refine qf (m:=f.vars.length) wy Zz Z Z Z Z Z (by simp) (by simp) (by show (8:Int)*_≤_;omega) (by omega)<|fun i21=>z6<|aQ 2 Z<|qf (m:=f.vars.length) jw X7 Z Z Z Z Z (by simp) (by simp) (by show (8:Int)*_≤_;omega) (by omega)<|fun i17=>z6<|ad 7 Z (y4 (cps:=[(0,[_,_,_]),(1,[_]),(2,[_]),(3,[_])]) (rs:=[_,_,_,_,_,_,.raw (.slice none 0 0),.int .i64 0,.int .i64 0,.int .i64 0,.int .i64 0,.int .i64 0,.raw (.slice none 0 0),.int .i64 0,.int .i64 0,.int .i64 0,.int .i64 0,.int .i64 0,.int .i64 0,.int .i64 0,.int .i64 0,.int .i64 0,.bool false]) Cf Z Z Z)<|aQ 8 Z<|yn (cs:=_) Z Z Z Z<|fun i23=>ze (zb (zc .t2))<|ze (zb (zc .t3))<|ze (zb (zc .t3))<|ze (zb (zc .t3))<|z6<|ad 9 Z (fZ Z)<|bJ ?_
    exact ⟨(i23,i17,i19,i21),eh,aK,aH,trivial⟩
  ·refine qf (m:=f.vars.length) wy Zz Z Z Z Z Z (by simp) (by simp) (by show (8:Int)*_≤_;omega) (by omega)<|fun i21=>z6<|yr (i:=2) (j:=4) Z Z (by kernel_rfl) ?_ ?_
   ·refine qf (m:=f.vars.length) jw X7 Z Z Z Z Z (by simp) (by simp) (by show (8:Int)*_≤_;omega) (by omega)<|fun i17=>z6<|aQ 4 Z<|az.makeB (m:=f.vars.length) jk Yp Z Z Z Z Z (by simp) (by simp) (by show (1:Int)*_≤_;omega) (by omega)<|fun i19=>z6<|ad 7 Z (y4 (cps:=[(0,[_,_,_]),(1,[_]),(2,[_]),(3,[_])]) (rs:=[_,_,_,_,_,_,.raw (.slice none 0 0),.int .i64 0,.int .i64 0,.int .i64 0,.int .i64 0,.int .i64 0,.raw (.slice none 0 0),.int .i64 0,.int .i64 0,.int .i64 0,.int .i64 0,.int .i64 0,.int .i64 0,.int .i64 0,.int .i64 0,.int .i64 0,.bool false]) Cf Z Z Z)<|aQ 8 Z<|yn (cs:=_) Z Z Z Z<|fun i23=>ze (zb (zc .t3))<|ze (zb (zc .t2))<|ze (zb (zc .t3))<|ze (zb (zc .t3))<|z6<|ad 9 Z (fZ Z)<|bJ ?_
    exact ⟨(i23,i17,i19,i21),eh,aK,aH,trivial⟩
   ·refine az.makeB (m:=f.vars.length) jk Yp Z Z Z Z Z (by simp) (by simp) (by show (1:Int)*_≤_;omega) (by omega)<|fun i19=>z6<|aQ 2 Z<|qf (m:=f.vars.length) jw X7 Z Z Z Z Z (by simp) (by simp) (by show (8:Int)*_≤_;omega) (by omega)<|fun i17=>z6<|ad 7 Z (y4 (cps:=[(0,[_,_,_]),(1,[_]),(2,[_]),(3,[_])]) (rs:=[_,_,_,_,_,_,.raw (.slice none 0 0),.int .i64 0,.int .i64 0,.int .i64 0,.int .i64 0,.int .i64 0,.raw (.slice none 0 0),.int .i64 0,.int .i64 0,.int .i64 0,.int .i64 0,.int .i64 0,.int .i64 0,.int .i64 0,.int .i64 0,.int .i64 0,.bool false]) Cf Z Z Z)<|aQ 8 Z<|yn (cs:=_) Z Z Z Z<|fun i23=>z6<|ad 9 Z (fZ Z)<|bJ ?_
    exact ⟨(i23,i17,i19,i21),eh,aK,aH,trivial⟩
 ·rintro ⟨i23,i17,i19,i21⟩ _
  refine ai<|aJ Z<|aq Z<|za (zf j9 Z Y1 (by decide) Z Z)<|za (zf Ze Z sizeOf93 (by decide) Z Z)<|yp (l:=[_]) (new:=[_,_,_,_,_,_,_,_,_,_,_,_,_,_,_,_,_,_,_,_,_,_,_]) sizeOf93 Z Z Z Z Z Z .head Z Z<|z6<|gP (off:=6) (k:=1) (T:=87) (fun _=>.head) Z<|fun jo=>gP (off:=12) (k:=1) (T:=2) (fun _=>.t1) Z<|fun jt=>zz aS.bagNew<|zz (zb (zc .head))<|zz (zb (zc .t1))<|zz (zb (zc .t2))<|zz (zb (zc .t6))<|zz (zb (zc .t6))<|zz (zb (zc .t6))<|zz (zb (zc .t6))<|zd<|ai<|aJ Z<|aq Z<|za (zf j9 Z j7 (by decide) Z Z)<|za (zo (c:=.own _ _) je Z ⟨_,.head⟩ Z)<|za (qo wy Z)<|aa Z<|z6<|zk<|y7 (γ:=Nat) [2,3,6,32] (fun k=>[(33,.int .i64 k)]) (fun k=>wO f i23 i17 i19 i21 jo jt [] (FU (List.replicate f.vars.length 0) (List.replicate f.vars.length false) (l3 f.vars.length k) [])) (fun k=>k≤f.vars.length) (fun k=>f.vars.length - k) 0 aK ⟨_,(.refl _),by rw[FS];rfl⟩ (qw _) ?_
  rintro k hk
  refine ai<|ax Z Z<|z6<|zd<|zt Z (fun ck=>?_) (fun ck=>?_)
  ·have hk2:k<f.vars.length:=by simp at ck;omega
   refine zh<|zd<|zk<|ai<|aa Z<|ak Z<|z6<|aT<|aJ Z<|aq Z<|za (zf j9 Z j7 (by decide) Z Z)<|za (zo (c:=.own _ _) je Z ⟨_,.head⟩ Z)<|aa Z<|za (yj (j:=k) wy wz Z Z Z ⟨_,.t3⟩ ((aE _).trans (sY hk)) hk2)<|yy (j:=k) wz Z Z .t3 (by rw[sY hk];exact hk2)<|z6<|aT<|aC Z Z<|aa Z<|z6 ?_
   exact ⟨k+1,gn,aK,⟨_,(.refl _),by rw[←Cg hk2]⟩,hk2,by omega⟩
  ·obtain rfl:k=f.vars.length:=by simp at ck;omega
   rw[FT]
   refine y5<|zd<|ai<|au Yk Z sizeOf35 Z Z<|aI isAgg35 Z<|ap Xa Z<|aa Z<|z6<|zk<|y7 (γ:=Nat) [2,3,6,44,45] (fun k=>[(46,.int .i64 k)]) (fun k=>wO f i23 i17 i19 i21 jo jt [] (FU (dR (rQ f) 0 f.vars.length (i.args.take k)) (dR (rR f) false f.vars.length (i.args.take k)) (dR (qL f) (-1) f.vars.length (i.args.take k)) [])) (fun k=>k≤i.args.length) (fun k=>i.args.length - k) 0 aK ⟨_,(.refl _),by rw[yN,yN,yN]⟩ (qw _) ?_
   rintro k hk
   refine ai<|ax Z Z<|z6<|zd<|zt Z (fun ck=>?_) (fun ck=>?_)
   ·have hk2:k<i.args.length:=by simp at ck;omega
    obtain ⟨a,hea⟩:∃a,i.args[k]=a:=⟨_,rfl⟩
    have hag:i.args[k]?=some a:=by rw[qt hk2,hea]
    obtain ⟨v,hev⟩:∃v,f.vars[k]?=some v:=⟨_,qt (by omega)⟩
    have hty:nd f k=v.ty:=by unfold nd;rw[hev];rfl
    have sI:=m7 (g:=rQ f) (d:=0) hk2 ha
    have sB:=m7 (g:=rR f) (d:=false) hk2 ha
    have sA:=m7 (g:=qL f) (d:=-1) hk2 ha
    have kI:=nP (g:=rQ f) (d:=0) hk2 ha
    have kB:=nP (g:=rR f) (d:=false) hk2 ha
    have kA:=nP (g:=qL f) (d:=-1) hk2 ha
    rw[hea] at sI sB sA kI kB kA
    refine zh<|zd<|zk<|ai<|aa Z<|za (bv k Xa sizeOf89 Z Z Z hag)<|ae isAgg89 sizeOf89 Z Z<|y6 (cs:=[.int .i64 0,.bool false,.int .i64 0]) zeroValue89 Z Z<|fun i9=>ak Z<|y1 sizeOf89 Z Z Z Z Z Z .head Z<|ze (yc (t:=9) Z .head)<|z6<|ai<|au jg Z Yc Z Z<|aI Yn Z<|aa Z<|za (bv k Z9 Yd Z Z Z hev)<|au Zm Z X2 Z Z<|aA Xg Z<|z6<|zk<|ai<|ao Z Z<|ab Z<|z6<|zt Z (fun c0=>?_) (fun c0=>?_)
    ·have c0:nd f k=0:=hty.trans (by simpa using c0)
     rw[show rQ f k a=a.int by unfold rQ;rw[if_pos c0]] at sI
     have eB:=kB (by unfold rR;rw[if_pos c0])
     have eA:=kA (by unfold qL;rw[if_pos c0])
     refine zr (fun j=>Nat.beq j 8) (by kernel_rfl) Z (zj (.r (.rest _)))<|ad 0 Z (cP Z)<|ad 1 Z (zw Z)<|ad 2 Z (zf j9 Z Zu (by decide) Z Z)<|ad 3 Z (zo (c:=.own _ _) Ye Z ⟨_,.head⟩ Z)<|ad 4 Z (cD Z)<|ad 5 Z (bM Xl Z Z5 Z Z)<|ad 6 Z (cR Zx Z)<|aQ 7 Z<|za (yj (j:=k) jw Z5 Z Z Z ⟨_,.head⟩ ((aE _).trans (gj ha k)) (by omega))<|z6<|yf<|yi (i:=8) Z (by kernel_rfl) (by kernel_rfl)<|yy (j:=k) Z5 Z Z .t1 (by rw[gj ha];omega)<|z6<|ym (by kernel_rfl)<|aT<|aC Z Z<|aa Z<|z6 ?_
     exact ⟨k+1,sj,aK,⟨_,(.refl _),by rw[←sI,←eB,←eA]⟩,hk2,by omega⟩
    ·have c0:¬nd f k=0:=fun h=>c0 (by rw[hty] at h;simpa using h)
     have eI:=kI (by unfold rQ;rw[if_neg c0])
     refine ai<|ao Z Z<|ab Z<|z6<|zt Z (fun c1=>?_) (fun c1=>?_)
     ·have c1:nd f k=1:=hty.trans (by simpa using c1)
      rw[show rR f k a=a.b by unfold rR;rw[if_neg c0,if_pos c1]] at sB
      have eA:=kA (by unfold qL;rw[if_neg c0,if_pos c1])
      refine zr (fun j=>Nat.beq j 8) (by kernel_rfl) Z (zj (.r (.rest _)))<|ad 0 Z (cP Z)<|ad 1 Z (zw Z)<|ad 2 Z (zf j9 Z X8 (by decide) Z Z)<|ad 3 Z (zo (c:=.own _ _) Xk Z ⟨_,.head⟩ Z)<|ad 4 Z (cD Z)<|ad 5 Z (bM Xl Z Z6 Z Z)<|ad 6 Z (yv (c:=.bool _) Ym Z)<|aQ 7 Z<|za (yj (j:=k) jk Z6 Z Z Z ⟨_,.t1⟩ ((aN _).trans (gj ha k)) (by omega))<|z6<|yf<|yi (i:=8) Z (by kernel_rfl) (by kernel_rfl)<|qb (j:=k) Z6 Z Z .t2 (by rw[gj ha];omega)<|z6<|ym (by kernel_rfl)<|aT<|aC Z Z<|aa Z<|z6 ?_
      exact ⟨k+1,sj,aK,⟨_,(.refl _),by rw[←sB,←eI,←eA]⟩,hk2,by omega⟩
     ·have c1:¬nd f k=1:=fun h=>c1 (by rw[hty] at h;simpa using h)
      rw[show qL f k a=a.arr by unfold qL;rw[if_neg c0,if_neg c1]] at sA
      have eB:=kB (by unfold rR;rw[if_neg c0,if_neg c1])
      refine zr (fun j=>Nat.beq j 8) (by kernel_rfl) Z (zj (.r (.rest _)))<|ad 0 Z (cP Z)<|ad 1 Z (zw Z)<|ad 2 Z (zf j9 Z j7 (by decide) Z Z)<|ad 3 Z (zo (c:=.own _ _) je Z ⟨_,.head⟩ Z)<|ad 4 Z (cD Z)<|ad 5 Z (bM Xl Z wz Z Z)<|ad 6 Z (cR j6 Z)<|aQ 7 Z<|za (yj (j:=k) wy wz Z Z Z ⟨_,.t2⟩ ((aE _).trans (gj ha k)) (by omega))<|z6<|yf<|yi (i:=8) Z (by kernel_rfl) (by kernel_rfl)<|yy (j:=k) wz Z Z .t3 (by rw[gj ha];omega)<|z6<|ym (by kernel_rfl)<|aT<|aC Z Z<|aa Z<|z6 ?_
      exact ⟨k+1,sj,aK,⟨_,(.refl _),by rw[←sA,←eI,←eB]⟩,hk2,by omega⟩
   ·obtain rfl:k=i.args.length:=by simp at ck;omega
    rw[qy]
    refine y5<|zd<|ai<|au Yk Z Yi Z Z<|aI X6 Z<|ap Zj Z<|aa Z<|z6<|zk<|y7 (γ:=Nat × Nat × List Nat) [6,87,88] (fun g=>[(89,.int .i64 g.1)]) (fun g=>wO f i23 i17 i19 i21 g.2.1 jt g.2.2 (FU (dR (rQ f) 0 f.vars.length i.args) (dR (rR f) false f.vars.length i.args) (dR (qL f) (-1) f.vars.length i.args) (i.arrays.take g.1))) (fun g=>g.1≤i.arrays.length∧g.2.2.length=(i.arrays.take g.1).length) (fun g=>i.arrays.length - g.1) (0,jo,[]) aK aH (⟨qw _,Z⟩) ?_
    rintro ⟨k,jo,ids⟩ ⟨hk,hids⟩
    try dsimp only at *
    refine ai<|ax Z Z<|z6<|zd<|zt Z (fun ck=>?_) (fun ck=>?_)
    ·have hk2:k<i.arrays.length:=by simp at ck;omega
     obtain ⟨r,her⟩:∃r,i.arrays[k]=r:=⟨_,rfl⟩
     have hrg:i.arrays[k]?=some r:=by rw[qt hk2,her]
     have hrl:=hr r (w4 hrg)
     have hts:i.arrays.take (k+1)=i.arrays.take k++[r]:=by rw[qu hk2,her]
     have htl:(i.arrays.take k).length=k:=by rw[w7];omega
     refine zh<|zd<|zk<|ai<|za (bv k Zj Zu Z Z Z hrg)<|aI Ye Z<|za (ni Z)<|z6<|zr (fun j=>Nat.beq j 12) (by kernel_rfl) Z (zj (.r (.rest _)))<|ad 0 Z (cP Z)<|ad 1 Z (cP Z)<|ad 2 Z (zw Z)<|ad 3 Z (zf j9 Z Yi (by decide) Z Z)<|ad 4 Z (zo (c:=.own _ _) X6 Z ⟨_,.head⟩ Z)<|ad 6 Z (wF Z)<|aQ 5 Z<|yh (k:=1) jw X7<|fun i98=>z6<|aQ 7 Z<|yq (k:=1) jw X7 Z Z Z Z Z (fun _=>.head) Z (by decide) (by rw[Ej];exact bU r) (by show (_+_)*8≤_;simp;omega) (by simp;omega)<|fun i100=>z6<|aQ 8 Z<|y3 (rows:=[[_]]) Ea Z Z Z Z Z<|z6<|aQ 9 Z<|yq (k:=1) Zj type87 Z Z Z Z Z (fun _=>.t4) (by show _=(i.arrays.take k).length*1;rw[jH hids];omega) (by decide) Z (by show ((i.arrays.take k).length+1)*24≤_;omega) (by show (i.arrays.take k).length+1≤_;omega)<|fun i102=>z6<|yo (i:=10) Z (by kernel_rfl) (by kernel_rfl) (by kernel_rfl) (by kernel_rfl) (zw Z)<|ad 11 Z (zf j9 Z Yi (by decide) Z Z)<|yf<|yi (i:=12) Z (by kernel_rfl) (by kernel_rfl)<|yp (l:=[_]) (new:=[_,_,_,_,_,_,_,_,_,_,_,_,_,_,_,_,_,_,_,_,_,_,_]) Yi Z Z Z Z Z Z .head Z Z<|z6<|ym (by kernel_rfl)<|zz (aS.bagIn (X':=rv (ids++[i100]) (i.arrays.take k++[r])) .t1 ((by rw[List.nil_append,Ej];exact wx i100 r hids)) .t6)<|aT<|aC Z Z<|aa Z ?_
     refine z6 ?_
     exact ⟨(k+1,i102,ids++[i100]),de,aK,⟨_,(.refl _),by dsimp only;rw[hts];exact FV f i23 i17 i19 i21 i102 jt (s:=FU (dR (rQ f) 0 f.vars.length i.args) (dR (rR f) false f.vars.length i.args) (dR (qL f) (-1) f.vars.length i.args) (i.arrays.take k)) hids i100 r _ (by simp)⟩,⟨hk2,by dsimp only;rw[hts];simp[hids]⟩,by dsimp only;omega⟩
    ·obtain rfl:k=i.arrays.length:=by simp at ck;omega
     rw[qy] at hids
     rw[qy]
     refine y5<|ai<|aJ Z<|za (fZ Z)<|z6<|zi<|zn (x:=.po _ _) Z ?_
     exact ⟨i23,i17,i19,i21,jo,jt,ids,hids,rfl,rfl⟩
end Go.Proofs.YtdilpodccjlkgaaGreatDoor
namespace Go.Proofs.YtdilpodccjlkgaaGreatDoor
open Go.Proofs.Tryz
open Go.Proofs Go.Lib Go.Shelf Go.RowKit
variable {E:World}
set_option maxRecDepth 20000
theorem wD (f:ac) (i:xH) (hp:f.params.length≤f.vars.length) (hl:i.args.length≤281474976710656) (hl2:i.arrays.length≤281474976710656):aM prog E 13 [.agg (bD f),.agg (sX i)] (.int .i64 (fx f i)):=by
 refine zp func13 Z (by decide) Z<|ai<|y9 (cs:=_) Z Z Z<|y9 (cs:=_) Z Z Z<|ak Z<|z6<|zd<|ai<|au Yk Z sizeOf35 Z Z<|aI isAgg35 Z<|ap Xa Z<|au jg Z j7 Z Z<|aI je Z<|ap wy Z<|aO Z Z<|z6<|zy Z (fun c1=>?_) (fun c1=>?_)
 ·have c1:¬i.args.length=f.params.length:=by simp at c1;omega
  refine ai<|ak Z<|z6<|zi<|zn (x:=.int _ _) Z ?_
  unfold fx;rw[if_pos c1]
 ·have c1:i.args.length=f.params.length:=by simp at c1;omega
  refine zh<|zd<|ai<|au Yk Z sizeOf35 Z Z<|aI isAgg35 Z<|ap Xa Z<|aa Z<|z6<|zk<|y7 (γ:=Nat) [2,3,17,18] (fun k=>[(19,.int .i64 k)]) (fun k=>[]) (fun k=>k≤i.args.length∧∀(j:Nat) a,j<k→i.args[j]?=some a→iL f i (a,j)=false) (fun k=>i.args.length - k) 0 aK aH (⟨qw _,fun j a h=>absurd h (Nat.not_lt_zero _)⟩) ?_
  rintro k ⟨hk,hok⟩
  refine ai<|ax Z Z<|z6<|zd<|zt Z (fun ck=>?_) (fun ck=>?_)
  ·have hk2:k<i.args.length:=by simp at ck;omega
   obtain ⟨a,hea⟩:∃a,i.args[k]=a:=⟨_,rfl⟩
   have hag:i.args[k]?=some a:=by rw[qt hk2,hea]
   obtain ⟨v,hev⟩:∃v,f.vars[k]?=some v:=⟨_,qt (by omega)⟩
   have hty:nd f k=v.ty:=by unfold nd;rw[hev];rfl
   refine zh<|zd<|zk<|ai<|aa Z<|za (bv k Xa sizeOf89 Z Z Z hag)<|ae isAgg89 sizeOf89 Z Z<|y6 (cs:=[.int .i64 0,.bool false,.int .i64 0]) zeroValue89 Z Z<|fun i6=>ak Z<|y1 sizeOf89 Z Z Z Z Z Z .head Z<|ze (yc (t:=6) Z .head)<|z6<|zd<|ye (γ:=Bool) [2,3,17,18,19] (fun z=>[(43,.bool z)]) (fun z=>[]) (fun z=>z=iL f i (a,k)) ?_ (fun _ _ h=>h) ?_
   ·refine aT<|au jg Z Yc Z Z<|aI Yn Z<|aa Z<|za (bv k Z9 Yd Z Z Z hev)<|au Zm Z X2 Z Z<|aA Xg Z<|ao Z Z<|aj Z<|zq (s:=31) Z (fun c2=>?_) (fun c2=>?_)
    ·have d2:nd f k=2:=hty.trans (by simpa using c2)
     refine z8 Z Z c2<|au Xl Z wz Z Z<|z8 Z Z c2<|aA j6 Z<|z8 Z Z c2<|ax Z Z<|z8 Z Z c2<|aj Z<|zq (s:=35) Z (fun c3=>?_) (fun c3=>?_)
     ·have d3:a.arr < -1:=by simpa using c3
      refine z7 Z Z c3<|z7 Z Z c3<|z7 Z Z c3<|z7 Z Z c3<|z7 Z Z c3<|z7 Z Z c3<|z8 Z Z c2<|aw Z c3 Z<|aw Z c2 Z<|z6 ?_
      exact ⟨_,sj,aK,aH,by unfold iL;simp[d2,d3]⟩
     ·have d3:¬a.arr < -1:=by simpa using c3
      refine z8 Z Z c3<|au Xl Z wz Z Z<|z8 Z Z c3<|aA j6 Z<|z8 Z Z c3<|au Yk Z Yi Z Z<|z8 Z Z c3<|aI X6 Z<|z8 Z Z c3<|ap Zj Z<|z8 Z Z c3<|za (q5 Z Z)<|z8 Z Z c2<|ay Z c3 Z<|aw Z c2 Z<|z6 ?_
      exact ⟨_,sj,aK,aH,by unfold iL;simp[d2,d3]⟩
    ·have d2:¬nd f k=2:=fun h=>by rw[hty] at h;simp[h] at c2
     refine z7 Z Z c2<|z7 Z Z c2<|z7 Z Z c2<|z7 Z Z c2<|zm Z Z<|zm Z Z<|zm Z Z<|zm Z Z<|zm Z Z<|zm Z Z<|z7 Z Z c2<|ay Z c2 Z<|z6 ?_
     exact ⟨_,sj,aK,aH,by unfold iL;simp[d2]⟩
   ·rintro z hz
    refine zy Z (fun cz=>?_) (fun cz=>?_)
    ·have hb:i.args.zipIdx.any (iL f i)=true:=List.any_eq_true.2 ⟨(a,k),w4 (i:=k) (by rw[List.getElem?_zipIdx,hag];simp),hz.symm.trans cz⟩
     refine ai<|ak Z<|z6<|zi<|zn (x:=.int _ _) Z ?_
     unfold fx;rw[if_neg (fun h=>h c1),if_pos hb]
    ·refine zh<|aT<|aC Z Z<|aa Z<|z6 ?_
     exact ⟨k+1,gn,aK,aH,⟨hk2,fun j b hj hb=>by rcases (by omega:j<k∨j=k) with h|rfl;exact hok j b h hb;rw[hag] at hb;cases hb;exact hz.symm.trans cz⟩,by omega⟩
  ·obtain rfl:k=i.args.length:=by simp at ck;omega
   have hb:¬i.args.zipIdx.any (iL f i)=true:=fun h=>by
    obtain ⟨⟨a,j⟩,hm,hh⟩:=List.any_eq_true.1 h
    obtain ⟨hj,e⟩:=List.mk_mem_zipIdx_iff_getElem?.1 hm |> fun h=>(⟨(List.getElem?_eq_some_iff.1 h).1,h⟩:j<i.args.length∧_)
    rw[hok j a hj e] at hh;cases hh
   refine y5<|zd<|ai<|au Yk Z Yi Z Z<|aI X6 Z<|ap Zj Z<|aY Z Z<|z6<|zt Z (fun c32=>?_) (fun c32=>?_)
   ·have c32:32<i.arrays.length:=by omega
    refine ai<|ak Z<|z6<|zi<|zn (x:=.int _ _) Z ?_
    unfold fx;rw[if_neg (fun h=>h c1),if_neg hb,if_pos c32]
   ·have c32:¬32<i.arrays.length:=by omega
    refine zh<|zd<|ai<|au Yk Z Yi Z Z<|aI X6 Z<|ap Zj Z<|aa Z<|z6<|zk<|y7 (γ:=Nat) [50,51] (fun k=>[(52,.int .i64 k)]) (fun k=>[]) (fun k=>k≤i.arrays.length∧∀r∈i.arrays.take k,decide (64<r.length)=false) (fun k=>i.arrays.length - k) 0 aK aH (⟨qw _,fun r h=>by simp at h⟩) ?_
    rintro k ⟨hk,hok⟩
    refine ai<|ax Z Z<|z6<|zd<|zt Z (fun ck=>?_) (fun ck=>?_)
    ·have hk2:k<i.arrays.length:=by simp at ck;omega
     obtain ⟨r,her⟩:∃r,i.arrays[k]=r:=⟨_,rfl⟩
     have hrg:i.arrays[k]?=some r:=by rw[qt hk2,her]
     refine zh<|zd<|zk<|ai<|za (bv k Zj Zu Z Z Z hrg)<|aI Ye Z<|za (ni Z)<|z6<|ai<|bc Z<|ap jw Z<|aY Z Z<|z6<|zt Z (fun cr=>?_) (fun cr=>?_)
     ·have cr:64<r.length:=by omega
      have hb4:i.arrays.any (fun r=>decide (64<r.length))=true:=List.any_eq_true.2 ⟨r,w4 hrg,w8 cr⟩
      refine ai<|ak Z<|z6<|zi<|zn (x:=.int _ _) Z ?_
      unfold fx;rw[if_neg (fun h=>h c1),if_neg hb,if_neg c32,if_pos hb4]
     ·have cr:¬64<r.length:=by omega
      refine zh<|aT<|aC Z Z<|aa Z<|z6 ?_
      exact ⟨k+1,eh,aK,aH,⟨hk2,fun q hq=>by rw[qu hk2] at hq;rcases List.mem_append.1 hq with hq|hq;exact hok q hq;rw[List.mem_singleton.1 hq,her];exact w9 cr⟩,by omega⟩
    ·obtain rfl:k=i.arrays.length:=by simp at ck;omega
     rw[qy] at hok
     have hb4:¬i.arrays.any (fun r=>decide (64<r.length))=true:=fun h=>by
      obtain ⟨r,hm,hh⟩:=List.any_eq_true.1 h
      rw[hok r hm] at hh;cases hh
     refine y5<|ai<|ak Z<|z6<|zi<|zn (x:=.int _ _) Z ?_
     unfold fx;rw[if_neg (fun h=>h c1),if_neg hb,if_neg c32,if_neg hb4]
end Go.Proofs.YtdilpodccjlkgaaGreatDoor
namespace Go.Proofs.YtdilpodccjlkgaaGreatDoor
open Go.Proofs.Tryz
open Go.Proofs Go.Lib Go.Shelf Go.RowKit
variable {E:World}
set_option maxRecDepth 20000
def lm (f:ac) (k:Nat):List Int:=(List.range k).map fun j=>((kF f j:Nat):Int)
theorem jJ (f:ac) (k:Nat):(lm f k).length=k:=by unfold lm;simp
theorem sZ {f:ac} {k j:Nat} (h:j<k):(lm f k)[j]?=some ((kF f j:Nat):Int):=by unfold lm;rw[w2,List.getElem?_range h];rfl
theorem rx (f:ac) (k:Nat):lm f (k+1)=lm f k++[((kF f k:Nat):Int)]:=by unfold lm;rw[List.range_succ,w5];rfl
theorem s5 {f:ac} {i:Nat} {b:aX} (h:f.blocks[i]?=some b):kF f (i+1)=kF f i+rB b.insts:=by
 unfold kF
 rw[List.take_add_one,h,w5,List.sum_append]
 simp
theorem oY {f:ac} (hs:fc f.blocks≤1024):∀i:Nat,i≤f.blocks.length→kF f i≤i*1024
 |0,_=>by unfold kF;simp
 |i+1,h=>by
  have ih:=oY hs i (by omega)
  have hb:=qt (show i<f.blocks.length by omega)
  have h1:=iD _ _ (w4 hb)
  have h3:rB (f.blocks[i]'(by omega)).insts≤(f.blocks[i]'(by omega)).insts.length:=List.length_filter_le _ _
  rw[s5 hb]
  omega
theorem wE {l:List aF} {k:Nat} {x:aF} (h:l[k]?=some x):rB (l.take (k+1))=rB (l.take k)+(if jD x=true then 1 else 0):=by
 unfold rB
 rw[List.take_add_one,h,List.filter_append,qz]
 show _+([x].filter jD).length=_
 rw[List.filter_cons]
 split<;>rfl
theorem Ek (l:List aF) (k:Nat):rB (l.take k)≤l.length:=Nat.le_trans (List.length_filter_le _ _) (by rw[w7];omega)
theorem oZ {x:aF}:decide (0<(if 18≤x.op∧x.op≤24 then x.op - 17 else 0))=jD x:=by
 unfold jD
 split
 ·rename_i h;rw[w8 (show 0<x.op - 17 by omega),w8 h]
 ·rename_i h;rw[w9 h];rfl
set_option maxHeartbeats 4000000 in
theorem ul (f:ac) (hn:f.blocks.length≤64) (hs:fc f.blocks≤1024) (hop:∀b∈f.blocks,∀x∈b.insts,0≤x.op∧x.op≤26):aM prog E 29 [.agg (bD f)] (.fro 1 ((lm f (f.blocks.length+1)).map da)):=by
 unfold bD
 refine zp func29 Z (by decide) Z<|ai<|y9 (cs:=_) Z Z Z<|za (jK Z)<|z6<|ai<|za (jK Z)<|z6<|gm (t:=3) (k:=1) (T:=3) Z<|fun i3=>ai<|ak Z<|z6<|zd<|ai<|au jg Z Z8 Z Z<|aI Zh Z<|ap ju Z<|aa Z<|z6<|zk<|y7 (γ:=Nat × Nat) [10,11] (fun g=>[(12,.int .i64 g.1),(3,.own g.2 g.1),(4,.int .i64 ((kF f g.1:Nat):Int))]) (fun g=>[(g.2,.grow 1 3 (cI (lm f g.1)))]) (fun g=>g.1≤f.blocks.length) (fun g=>f.blocks.length - g.1) (0,i3) de aH (qw _) ?_
 rintro ⟨i,io⟩ hi
 try dsimp only at *
 have hcl:=oY hs i hi
 refine ai<|ax Z Z<|z6<|zd<|zt Z (fun ci=>?_) (fun ci=>?_)
 ·have hi2:i<f.blocks.length:=by simp at ci;omega
  have hb:=qt hi2
  obtain ⟨b,hbe⟩:∃b,f.blocks[i]=b:=⟨_,rfl⟩
  rw[hbe] at hb
  have hbm:=w4 hb
  have hsm:=iD _ _ hbm
  refine zh<|zd<|zk<|ai<|za (bv i ju jy Z Z Z hb)<|ae Yo jy Z Z<|y6 (cs:=[.str ⟨#[]⟩,.raw (.slice none 0 0),.raw (.slice none 0 0),.int .i64 0,.int .i64 0,.int .i64 0,.int .i64 0]) Zl Z Z<|fun i6=>y1 jy Z Z Z Z Z Z .head Z<|ze (yc (t:=6) Z .head)<|z6<|ai<|za (gQ Z)<|aa Z<|y3 (rows:=[[_]]) cF Z Z Z Z Z<|yq (k:=1) wy Zz Z Z Z Z Z (fun _=>.head) (by rw[aE,jJ,Nat.mul_one]) (by decide) Z (by show (_+_)*8≤_;simp<;>omega) (by simp<;>omega)<|fun i19=>za (eu Z)<|z6<|ai<|au ji Z Zq Z Z<|aI Y4 Z<|ap jz Z<|aa Z<|z6<|zk<|y7 (γ:=Nat) [3,10,11,12,21,22] (fun k=>[(23,.int .i64 k),(4,.int .i64 ((kF f i+rB (b.insts.take k):Nat):Int))]) (fun k=>[(i19,.grow 1 3 (cI (lm f (i+1))))]) (fun k=>k≤b.insts.length) (fun k=>b.insts.length - k) 0 eh ⟨_,(.refl _),by rw[rx,←l6];rfl⟩ (qw _) ?_
  rintro k hk
  have hkl:=Ek b.insts k
  refine ai<|ax Z Z<|z6<|zd<|zt Z (fun ck=>?_) (fun ck=>?_)
  ·have hk2:k<b.insts.length:=by simp at ck;omega
   obtain ⟨x,hx⟩:∃x,b.insts[k]?=some x:=⟨_,qt hk2⟩
   have hst:=wE hx
   refine zh<|zd<|zk<|ai<|za (bv k jz jx Z Z Z hx)<|ae Y0 jx Z Z<|y6 (cs:=[.int .i64 0,.int .i64 0,.raw (.slice none 0 0),.int .i64 0]) Zf Z Z<|fun i8=>y1 jx Z Z Z Z Z Z .head Z<|ze (yc (t:=8) Z .head)<|z6<|ai<|au j5 Z Z2 Z Z<|aA Z3 Z<|zg (lj x.op (hop b hbm x (w4 hx))) Z<|aY Z Z<|z6<|zy Z (fun c=>?_) (fun c=>?_)
   ·rw[if_pos (oZ.symm.trans c)] at hst
    refine aT<|aa Z<|aC Z Z<|ak Z<|z6<|aT<|aC Z Z<|aa Z<|z6 ?_
    exact ⟨k+1,yV,⟨rfl,congrArg (AV.int .i64) (by rw[hst];push_cast;omega),trivial⟩,aH,hk2,by omega⟩
   ·rw[if_neg (by rw[oZ.symm.trans c];decide)] at hst
    refine zh<|aT<|aC Z Z<|aa Z<|z6 ?_
    exact ⟨k+1,yV,⟨rfl,congrArg (AV.int .i64) (by rw[hst];push_cast;omega),trivial⟩,aH,hk2,by omega⟩
  ·obtain rfl:k=b.insts.length:=by simp at ck;omega
   refine y5<|aT<|aC Z Z<|aa Z<|z6 ?_
   exact ⟨(i+1,i19),eh,⟨rfl,rfl,congrArg (AV.int .i64) (by rw[s5 hb,qy]),trivial⟩,aH,hi2,by dsimp only;omega⟩
 ·obtain rfl:i=f.blocks.length:=by simp at ci;omega
  refine y5<|ai<|za (gQ Z)<|aa Z<|y3 (rows:=[[_]]) cF Z Z Z Z Z<|yq (k:=1) wy Zz Z Z Z Z Z (fun _=>.head) (by rw[aE,jJ,Nat.mul_one]) (by decide) Z (by show (_+_)*8≤_;simp<;>omega) (by simp<;>omega)<|fun i38=>za (eu Z)<|z6<|zz (aS.eq (show _=([(i38,.grow 1 3 (cI (lm f (f.blocks.length+1))))]:OL) from (by rw[rx,←l6];rfl)))<|zz (aS.knowI (t:=2) Z .head (jJ _ _))<|zi<|zn (x:=.fro _ _) Z ?_
  rfl
set_option maxHeartbeats 4000000 in
theorem yO (f:ac) (i:xH) (n:Nat) (hR:b7 f) (hs:small f) (hri:fx f i=0) (hi64:xJ i) (hi:bl f (k8 f i)) (ha:i.args.length≤f.vars.length) (hn:n≤1000000) :
  aM prog E 14 [.agg (bD f),.agg (sX i),.int .i64 n,.fro 1 ((Ep f).map xw)] (.bool true):=by
 have hls:=hi.ls
 have hlr:=hi.lr
 have hv:=hs.1
 have hnb:=hR.nblk
 have hsum:=hR.hS.2.2.2.2.1
 have hop:∀b∈f.blocks,∀x∈b.insts,0≤x.op∧x.op≤26:=fun b hb x hx=>(hR.run.insts b hb x hx).1.op
 have hnum:=ul (E:=E) f hnb hsum hop
 have hct:=oY hsum f.blocks.length (Nat.le_refl _)
 have hpl:=Fz f
 have hnl:=jJ f (f.blocks.length+1)
 refine zp func14 Z (by decide) Z<|ai<|y9 (cs:=_) Z Z Z<|y9 (cs:=_) Z Z Z<|ab Z<|z6<|ai<|ae jv jj Z Z<|zg (hnum) Z<|za (ni Z)<|z6<|zd<|ai<|bc Z<|ap jk Z<|bc Z<|bc Z<|ap wy Z<|za (Gv.sub Z Z (by unfold kJ;omega))<|za (bv f.blocks.length wy wz Z Z (by rw[jJ];push_cast;omega) (sZ (Nat.lt_succ_self _))) ?_
 refine aA j6 Z<|aO Z Z<|z6<|yg Z (by rw[hpl];simp)<|zh<|ai<|ae jv jj Z Z<|ae isAgg38 sizeOf38 Z Z<|zu Z (zj (.rest _)) (wC f i hv ha hls hlr) ?_
 rintro r27 O27 ⟨iw,ja,jb,jc,jo,jt,ids,hids,rfl,rfl⟩
 refine za (fZ Z)<|z6<|zd<|ai<|ak Z<|z6<|ye (γ:=GS × Nat × Nat × List Nat) [3,4,9,10] (fun g=>[]) (fun g=>wO f iw ja jb jc g.2.1 g.2.2.1 g.2.2.2 g.1) (fun g=>g.1=fJ f n (k8 f i)) ?_ (fun _ _ h=>h) ?_
 ·refine zk<|y7 (γ:=Nat × GS × Nat × Nat × List Nat) [2,3,4,9,10] (fun g=>[(11,.int .i64 g.1)]) (fun g=>wO f iw ja jb jc g.2.2.1 g.2.2.2.1 g.2.2.2.2 g.2.1) (fun g=>g.1≤n∧fJ f (n - g.1) g.2.1=fJ f n (k8 f i)∧bl f g.2.1∧g.2.1.st≤g.1∧(∀q,g.2.1.ck q≤g.1)∧g.2.2.2.2.length=g.2.1.arrays.length) (fun g=>n - g.1) (0,k8 f i,jo,jt,ids) aK aH (⟨qw _,Z,hi,qw _,fun _=>qw _,hids⟩) ?_
  rintro ⟨k,s,jo,jt,ids⟩ ⟨hk,hrun,hg,hst,hck,hids⟩
  try dsimp only at *
  refine zd<|ai<|aa Z<|aa Z<|ax Z Z<|aj Z<|zq (s:=31) Z (fun ck=>?_) (fun ck=>?_)
  ·have hk2:k<n:=by simp at ck;omega
   refine z8 Z Z ck<|aJ Z<|z8 Z Z ck<|aq Z<|z8 Z Z ck<|za (zf j9 Z Z6 (by decide) Z Z)<|z8 Z Z ck<|za (zo (c:=.bool _) Ym Z ⟨_,.head⟩ Z)<|z8 Z Z ck<|aD Z<|aw Z ck Z<|z6<|zy Z (fun ce=>?_) (fun ce=>?_)
   ·have he:s.ended=false:=by simpa using ce
    rw[show n - k=(n - (k+1))+1 by omega,fJ,if_neg (by rw[he];decide)] at hrun
    refine zh<|zd<|zk<|aT<|aJ Z<|zu Z (zj (.l (.l (.l (.l (.l (.l (.l (.rest _))))))))) (yM f iw ja jb jc jo jt ids s hids hg hR.run hv hs (by omega) (fun q=>by have:=hck q;omega)) ?_
    rintro r41 O41 ⟨jo',jt',ids',hl',rfl,rfl⟩
    refine z6<|aT<|aa Z<|aC Z Z<|ak Z<|z6 ?_
    exact ⟨(k+1,cQ f s,jo',jt',ids'),sj,aK,aH,⟨hk2,hrun,hg.step hR.run,by rw[Fc];dsimp only;omega,fun q=>Nat.le_trans (Fd f s q) (by have:=hck q;dsimp only;omega),hl'⟩,by dsimp only;omega⟩
   ·have he:s.ended=true:=by simpa using ce
    refine y5 ?_
    exact ⟨(s,jo,jt,ids),(by repeat (first|with_reducible exact ya _ _|refine yt rfl ?_|exact gn)),trivial,aH,by rw[←hrun];exact (iZ he _).symm⟩
  ·have hk2:k=n:=by simp at ck;omega
   refine z7 Z Z ck<|z7 Z Z ck<|z7 Z Z ck<|z7 Z Z ck<|z7 Z Z ck<|ay Z ck Z<|z6<|yg Z Z<|y5 ?_
   exact ⟨(s,jo,jt,ids),(by repeat (first|with_reducible exact ya _ _|refine yt rfl ?_|exact gn)),trivial,aH,by rw[←hrun,hk2,Nat.sub_self];rfl⟩
 ·rintro ⟨s,jo,jt,ids⟩ hs0
  dsimp only at hs0 ⊢
  refine zd<|ai<|aJ Z<|aq Z<|za (zf j9 Z Y1 (by decide) Z Z)<|za (zf Ze Z sizeOf93 (by decide) Z Z)<|za (zo (c:=.int _ _) isAgg93 Z ⟨_,.head⟩ Z)<|aO Z Z<|z6<|zy Z (fun ce=>?_) (fun ce=>?_)
  ·refine ai<|ab Z<|z6<|zi<|zn (x:=.bool _) Z ?_
   rfl
  ·have he:s.en=1:=by simpa using ce
   have hs0:s=fJ f n (k8 f i):=hs0
   obtain ⟨b,k,B,h1,h2,h3,h4,h5⟩:=BV hR (lh hR.hS) (ru hR.hS) hri hi64 n (by rw[←hs0];exact he)
   rw[←hs0] at h1 h2
   have hbl:=(List.getElem?_eq_some_iff.1 h3).1
   have hbc:=oY hsum b (by omega)
   have hsm:=iD _ _ (w4 h3)
   refine zh<|ai<|bc Z<|aJ Z<|aq Z<|za (zf j9 Z wz (by decide) Z Z)<|za (zo (c:=.int _ _) j6 Z ⟨_,.head⟩ Z)<|za (bv b wy wz Z Z h1 (sZ (show b<f.blocks.length+1 by omega)))<|aA j6 Z<|ak Z<|z6<|zd<|ai<|aJ Z<|aq Z<|za (zf j9 Z wz (by decide) Z Z)<|za (zo (c:=.int _ _) j6 Z ⟨_,.head⟩ Z)<|za (Gv.sub Z Z (by unfold kJ;omega))<|aa Z<|z6<|zk<|y7 (γ:=Nat) [3,4,10,59] (fun g=>[(60,.int .i64 g),(12,.int .i64 ((kF f b+rB (B.insts.take g):Nat):Int))]) (fun g=>wO f iw ja jb jc jo jt ids s) (fun g=>g≤k) (fun g=>k - g) 0 eh aH (qw _) ?_
   rintro g hg
   have hgl:=Ek B.insts g
   refine ai<|ax Z Z<|z6<|zd<|zt Z (fun cg=>?_) (fun cg=>?_)
   ·have hg2:g<k:=by rw[h2] at cg;omega
    obtain ⟨x,hx⟩:∃x,B.insts[g]?=some x:=⟨_,qt (by omega)⟩
    have hst:=wE hx
    refine zh<|zd<|zk<|ai<|aa Z<|ak Z<|z6<|zd<|zr (fun j=>false) (by kernel_rfl) Z (zj (.r (.rest _)))<|ad 0 Z (bM jg Z Z8 Z Z)<|ad 1 Z (fa Zh Z)<|ad 2 Z (cP Z)<|ad 3 Z (zw Z)<|ad 4 Z (zf j9 Z wz (by decide) Z Z)<|ad 5 Z (zo (c:=.int _ _) j6 Z ⟨_,.head⟩ Z)<|ad 6 Z (bv b ju jy Z Z h1 h3)<|ad 7 Z (bM ji Z Zq Z Z)<|ad 8 Z (fa Y4 Z)<|ad 9 Z (cD Z)<|ad 10 Z (bv g jz jx Z Z Z hx)<|ad 11 Z (bM j5 Z Z2 Z Z)<|ad 12 Z (cR Z3 Z)<|aQ 13 Z<|zg (lj x.op (hop B (w4 h3) x (w4 hx))) Z<|z6<|ad 14 Z (Gv.gtr Z Z)<|bJ<|zy Z (fun c=>?_) (fun c=>?_)
    ·rw[if_pos (oZ.symm.trans c)] at hst
     refine aT<|aa Z<|aC Z Z<|ak Z<|z6<|aT<|aC Z Z<|aa Z<|z6 ?_
     exact ⟨g+1,gn,⟨rfl,congrArg (AV.int .i64) (by rw[hst];push_cast;omega),trivial⟩,aH,hg2,by omega⟩
    ·rw[if_neg (by rw[oZ.symm.trans c];decide)] at hst
     refine zh<|aT<|aC Z Z<|aa Z<|z6 ?_
     exact ⟨g+1,gn,⟨rfl,congrArg (AV.int .i64) (by rw[hst];push_cast;omega),trivial⟩,aH,hg2,by omega⟩
   ·obtain rfl:g=k:=by rw[h2] at cg;omega
    refine y5<|ai<|bc Z<|aa Z<|za (qc (j:=kF f b+rB (B.insts.take g)) jk Z6 Z Z Z h5)<|za (yv (c:=.bool _) Ym Z)<|aD Z<|ab Z<|z6<|zi<|zn (x:=.bool _) Z ?_
    rfl
end Go.Proofs.YtdilpodccjlkgaaGreatDoor
namespace Go.Proofs.YtdilpodccjlkgaaGreatDoor
open Go.Proofs.Tryz
open Go.Proofs Go.Lib Go.Shelf Go.RowKit
variable {E:World}
set_option maxRecDepth 20000
def iG (i:xH):Bool:=decide (i.args.length≤20)&&(decide (i.arrays.length≤40)&&i.arrays.all fun r=>decide (r.length≤100))
theorem um (i:xH) (hl:i.args.length≤9223372036854775807) (hl2:i.arrays.length≤9223372036854775807):aM prog E 12 [.agg (sX i)] (.bool (iG i)):=by
 refine zp func12 Z (by decide) Z<|ai<|y9 (cs:=_) Z Z Z<|ab Z<|z6<|zd<|ai<|au Yk Z sizeOf35 Z Z<|aI isAgg35 Z<|ap Xa Z<|aY Z Z<|aj Z<|zq (s:=9) Z (fun c1=>?_) (fun c1=>?_)
 ·refine z7 Z Z c1<|z7 Z Z c1<|z7 Z Z c1<|z7 Z Z c1<|aw Z c1 Z<|z6<|yu Z Z<|ai<|ab Z<|z6<|zi<|zn (x:=.bool _) Z ?_
  unfold iG;rw[w9 (fun h=>by simp at c1;omega)];rfl
 ·have h1:i.args.length≤20:=by simp at c1;omega
  refine z8 Z Z c1<|au Yk Z Yi Z Z<|z8 Z Z c1<|aI X6 Z<|z8 Z Z c1<|ap Zj Z<|z8 Z Z c1<|aY Z Z<|ay Z c1 Z<|z6<|zy Z (fun c2=>?_) (fun c2=>?_)
  ·refine ai<|ab Z<|z6<|zi<|zn (x:=.bool _) Z ?_
   unfold iG;rw[w8 h1,w9 (fun h=>by simp at c2;omega)];rfl
  ·have h2:i.arrays.length≤40:=by simp at c2;omega
   refine zh<|zd<|ai<|au Yk Z Yi Z Z<|aI X6 Z<|ap Zj Z<|aa Z<|z6<|zk<|y7 (γ:=Nat) [16,17] (fun k=>[(18,.int .i64 k)]) (fun k=>[]) (fun k=>k≤i.arrays.length∧∀r∈i.arrays.take k,r.length≤100) (fun k=>i.arrays.length - k) 0 aK aH (⟨qw _,fun _ h=>by cases h⟩) ?_
   rintro k ⟨hk,hall⟩
   refine ai<|ax Z Z<|z6<|zd<|zt Z (fun ck=>?_) (fun ck=>?_)
   ·have hk2:k<i.arrays.length:=by omega
    refine zh<|zd<|zk<|ai<|za (bv k Zj Zu Z Z Z (qt hk2))<|aI Ye Z<|za (ni Z)<|z6<|ai<|bc Z<|ap jw Z<|aY Z Z<|z6<|zt Z (fun cr=>?_) (fun cr=>?_)
    ·refine ai<|ab Z<|z6<|zi<|zn (x:=.bool _) Z ?_
     unfold iG;rw[w8 h1,w8 h2,Bool.true_and,Bool.true_and];exact jb (List.all_eq_false.2 ⟨i.arrays[k],qx hk2,by simp;omega⟩).symm
    ·have hall2:∀r∈i.arrays.take (k+1),r.length≤100:=fun r hr=>by
      rw[qu hk2] at hr
      rcases List.mem_append.1 hr with h|h
      ·exact hall r h
      ·rw[List.mem_singleton.1 h];omega
     refine zh<|aT<|aC Z Z<|aa Z<|z6 ?_
     exact ⟨k+1,eh,aK,aH,⟨hk2,hall2⟩,by omega⟩
   ·obtain rfl:k=i.arrays.length:=by omega
    rw[qy] at hall
    refine y5<|ai<|ab Z<|z6<|zi<|zn (x:=.bool _) Z ?_
    unfold iG;rw[w8 h1,w8 h2,Bool.true_and,Bool.true_and];exact jb (List.all_eq_true.2 fun r hr=>w8 (hall r hr)).symm
end Go.Proofs.YtdilpodccjlkgaaGreatDoor
namespace Go.Proofs.YtdilpodccjlkgaaGreatDoor
open Go.Proofs.Tryz
open Go.Proofs Go.Lib Go.Shelf Go.RowKit
variable {E:World}
set_option maxRecDepth 20000
theorem r3 (f:ac) (hw:sF f) (h64:∀b∈f.blocks,∀x∈b.insts,bB x.num) (hL:bz E) (i:xH) (hi64:xJ i) (hil:i.args.length≤9223372036854775807) (hil2:i.arrays.length≤9223372036854775807) (m:Int) (hm:0≤m∧m≤65535):aM prog E 4 [.agg (bD f),.agg (sX i),.int .u16 m] (.bool true):=by
 have hlv:=ug (E:=E) hL
 refine zp func4 Z (by decide) Z<|ai<|y9 (cs:=_) Z Z Z<|y9 (cs:=_) Z Z Z<|ab Z<|z6<|zd<|ai<|zg (hlv) Z<|aD Z<|aj Z<|z8 Z Z Z<|ae jv jj Z Z<|z8 Z Z Z<|zg (rX f hw hL) Z<|z8 Z Z Z<|aD Z<|ay Z Z Z<|aj Z<|zq (s:=16) Z (fun c1=>?_) (fun c1=>?_)
 ·refine z7 Z Z c1<|z7 Z Z c1<|z7 Z Z c1<|aw Z c1 Z<|aj Z<|z7 Z Z Z<|z7 Z Z Z<|z7 Z Z Z<|z7 Z Z Z<|aw Z Z Z<|z6<|yu Z Z<|ai<|zg (hlv) Z<|ab Z<|z6<|zi<|zn (x:=.bool _) Z ?_
  rfl
 ·have hlp:ik f=true:=by cases h:ik f;rw[h] at c1;cases c1;rfl
  obtain ⟨hsm,ht,hs,hp⟩:=uf hlp
  have hS:=eE ht
  have hR:=wu ht hs h64
  refine z8 Z Z c1<|ae isAgg38 sizeOf38 Z Z<|z8 Z Z c1<|zg (um i hil hil2) Z<|z8 Z Z c1<|aD Z<|ay Z c1 Z<|aj Z<|zq (s:=21) Z (fun c2=>?_) (fun c2=>?_)
  ·refine z7 Z Z c2<|z7 Z Z c2<|z7 Z Z c2<|z7 Z Z c2<|aw Z c2 Z<|z6<|yu Z Z<|ai<|zg (hlv) Z<|ab Z<|z6<|zi<|zn (x:=.bool _) Z ?_
   rfl
  ·have hsi:iG i=true:=by cases h:iG i;rw[h] at c2;cases c2;rfl
   have hsi2:i.args.length≤20∧i.arrays.length≤40:=by unfold iG at hsi;simp only[wa,wg] at hsi;exact ⟨hsi.1,hsi.2.1⟩
   refine z8 Z Z c2<|ae jv jj Z Z<|z8 Z Z c2<|ae isAgg38 sizeOf38 Z Z<|z8 Z Z c2<|zg (wD f i (lh hS) (by omega) (by omega)) Z<|z8 Z Z c2<|aO Z Z<|ay Z c2 Z<|z6<|zy Z (fun c3=>?_) (fun c3=>?_)
   ·refine ai<|zg (hlv) Z<|ab Z<|z6<|zi<|zn (x:=.bool _) Z ?_
    rfl
   ·have hri:fx f i=0:=by simpa using c3
    obtain ⟨hgi,hia⟩:=bl.beg hR.run (lh hS) (ru hS) hri hi64
    obtain ⟨k,hk⟩:∃k:Nat,m.tmod 401=(k:Int):=⟨(m.tmod 401).toNat,by have:=Int.tmod_nonneg 401 hm.1;omega⟩
    have hk2:k≤400:=by have:=Int.tmod_lt_of_pos m (show (0:Int)<401 by decide);omega
    have hkw:IntKind.i64.wrap (m.tmod 401)=(k:Int):=by rw[hk];unfold IntKind.wrap;simp[IntKind.bits,IntKind.signed];omega
    have hN:=yO (E:=E) f i k hR hsm hri hi64 hgi hia (by omega)
    rw[←hkw] at hN
    refine zh<|ai<|ae jv jj Z Z<|zg (m6 f ⟨hsm,hL,hR,ht,hs⟩ hp) Z<|za (kw Z)<|za (qa (v:=.fro _ _) Z Z)<|za (jL Z Z)<|za (ni Z)<|ak Z<|z6<|ai<|aa Z<|ao Z Z<|aj Z<|z8 Z Z Z<|ae jv jj Z Z<|z8 Z Z Z<|ae isAgg38 sizeOf38 Z Z<|z8 Z Z Z<|aa Z<|z8 Z Z Z<|za (Gv.rem Z Z (by decide))<|z8 Z Z Z<|za (qm underlying39 Zy Z)<|z8 Z Z Z<|bc Z<|z8 Z Z Z<|zg (hN) Z<|aw Z Z Z<|ab Z<|z6<|zi<|zn (x:=.bool _) Z ?_
    rfl
end Go.Proofs.YtdilpodccjlkgaaGreatDoor
namespace Go.Proofs.YtdilpodccjlkgaaGreatDoor
open Go.Proofs.Tryz
open Go.Proofs Go.Lib Go.Shelf Go.RowKit Go.WideShapes
set_option maxRecDepth 20000
variable {W:World}
theorem Ch:gW prog W 3 da (fun x=>(Lit.int .i64 x).wf=true):=gW.int Zy
theorem Ax:gW prog W 23 (fun l:List Int=>[.fro 1 (l.map da)]) wL:=fun en held fuel cs x h=>by
 obtain ⟨l,hl,r⟩:=gW.slice (k:=1) wy Ch (by kernel_rfl) (by decide) en held fuel cs x h
 exact ⟨l,hl.2,r⟩
theorem Hj:gW prog W 61 gD (fun _=>True):=fun en held fuel cs x h=>by
 obtain ⟨xs,n,_,_,hl,hxl,hf⟩:=DataW.trod_struct Zm h
 have hl:cs.length=2:=hl.trans (by kernel_rfl)
 have hxl:xs.length=2:=hxl
 obtain ⟨a,_,ra⟩:=qj (o:=0) (k:=1) (hf 0 _ rfl) (gW.str Zs) (by omega) rfl (by kernel_rfl)
 obtain ⟨b,_,rb⟩:=qj (o:=1) (k:=1) (hf 1 _ rfl) (gW.int underlying59) (by omega) rfl (by kernel_rfl)
 exact ⟨⟨a,b⟩,trivial,q8 (o:=0) ra (q8 rb (RepL.fin hl))⟩
theorem Hk:gW prog W 63 fg HS:=fun en held fuel cs x h=>by
 obtain ⟨xs,n,_,_,hl,hxl,hf⟩:=DataW.trod_struct Z0 h
 have hl:cs.length=3:=hl.trans (by kernel_rfl)
 have hxl:xs.length=3:=hxl
 obtain ⟨a,_,ra⟩:=qj (o:=0) (k:=1) (hf 0 _ rfl) Ch (by omega) rfl (by kernel_rfl)
 obtain ⟨b,hb,rb⟩:=qj (o:=1) (k:=1) (hf 1 _ rfl) Ax (by omega) rfl (by kernel_rfl)
 obtain ⟨c,hc,rc⟩:=qj (o:=2) (k:=1) (hf 2 _ rfl) Ax (by omega) rfl (by kernel_rfl)
 exact ⟨⟨a,b,c⟩,⟨hb,hc⟩,q8 (o:=0) ra (q8 rb (q8 rc (RepL.fin hl)))⟩
def Ij (x:aF):Prop:=wL x.args∧(Lit.int .i64 x.num).wf=true
theorem FW:gW prog W 54 bF Ij:=fun en held fuel cs x h=>by
 obtain ⟨xs,n,_,_,hl,hxl,hf⟩:=DataW.trod_struct j5 h
 have hl:cs.length=4:=hl.trans (by kernel_rfl)
 have hxl:xs.length=4:=hxl
 obtain ⟨a,_,ra⟩:=qj (o:=0) (k:=1) (hf 0 _ rfl) (gW.int underlying52) (by omega) rfl (by kernel_rfl)
 obtain ⟨b,_,rb⟩:=qj (o:=1) (k:=1) (hf 1 _ rfl) Ch (by omega) rfl (by kernel_rfl)
 obtain ⟨c,hc,rc⟩:=qj (o:=2) (k:=1) (hf 2 _ rfl) Ax (by omega) rfl (by kernel_rfl)
 obtain ⟨d,hd,rd⟩:=qj (o:=3) (k:=1) (hf 3 _ rfl) (gW.int Zt) (by omega) rfl (by kernel_rfl)
 exact ⟨⟨a,b,c,d⟩,⟨hc,hd⟩,q8 (o:=0) ra (q8 rb (q8 rc (q8 rd (RepL.fin hl))))⟩
theorem FX:gW prog W 49 oP (fun _=>True):=fun en held fuel cs x h=>by
 obtain ⟨xs,n,_,_,hl,hxl,hf⟩:=DataW.trod_struct jf h
 have hl:cs.length=4:=hl.trans (by kernel_rfl)
 have hxl:xs.length=3:=hxl
 obtain ⟨a,_,ra⟩:=qj (o:=0) (k:=1) (hf 0 _ rfl) (gW.int underlying46) (by omega) rfl (by kernel_rfl)
 obtain ⟨b,_,rb⟩:=qj (o:=1) (k:=1) (hf 1 _ rfl) Ch (by omega) rfl (by kernel_rfl)
 obtain ⟨c,_,rc⟩:=qj (o:=2) (k:=2) (hf 2 _ rfl) (gW.pair (k:=1) Z1 Ch (by kernel_rfl) (by kernel_rfl)) (by omega) rfl (by kernel_rfl)
 exact ⟨⟨a,b,c.1,c.2⟩,trivial,q8 (o:=0) ra (q8 rb (q8 rc (RepL.fin hl)))⟩
def Ik (f:ac):Prop:=∀b∈f.blocks,∀x∈b.insts,bB x.num
def Il (b:aX):Prop:=HT b∧∀x∈b.insts,-9223372036854775808≤x.num∧x.num≤9223372036854775807
theorem FY:gW prog W 51 dk Il:=fun en held fuel cs x h=>by
 obtain ⟨xs,n,_,_,hl,hxl,hf⟩:=DataW.trod_struct ji h
 have hl:cs.length=7:=hl.trans (by kernel_rfl)
 have hxl:xs.length=4:=hxl
 obtain ⟨a,_,ra⟩:=qj (o:=0) (k:=1) (hf 0 _ rfl) (gW.str Zs) (by omega) rfl (by kernel_rfl)
 obtain ⟨b,hb,rb⟩:=qj (o:=1) (k:=1) (hf 1 _ rfl) (gW.slice (k:=3) Z4 Hk (by kernel_rfl) (by decide)) (by omega) rfl (by kernel_rfl)
 obtain ⟨c,hc,rc⟩:=qj (o:=2) (k:=1) (hf 2 _ rfl) (gW.slice (k:=4) jz FW (by kernel_rfl) (by decide)) (by omega) rfl (by kernel_rfl)
 obtain ⟨d,_,rd⟩:=qj (o:=3) (k:=4) (hf 3 _ rfl) FX (by omega) rfl (by kernel_rfl)
 exact ⟨⟨a,b,c,d⟩,⟨⟨hb.2,hc.2,hb.1,fun x hx=>(hc.1 x hx).1⟩,fun x hx=>by simpa [Lit.wf,IntKind.min,IntKind.max,IntKind.signed,IntKind.bits] using (hc.1 x hx).2⟩,q8 (o:=0) ra (q8 rb (q8 rc (q8 rd (RepL.fin hl))))⟩
theorem Im:gW prog W 26 bD (fun f=>sF f∧Ik f):=fun en held fuel cs x h=>by
 obtain ⟨xs,n,_,_,hl,hxl,hf⟩:=DataW.trod_struct jg h
 have hl:cs.length=3:=hl.trans (by kernel_rfl)
 have hxl:xs.length=3:=hxl
 obtain ⟨a,ha,ra⟩:=qj (o:=0) (k:=1) (hf 0 _ rfl) (gW.slice (k:=2) Z9 Hj (by kernel_rfl) (by decide)) (by omega) rfl (by kernel_rfl)
 obtain ⟨b,hb,rb⟩:=qj (o:=1) (k:=1) (hf 1 _ rfl) Ax (by omega) rfl (by kernel_rfl)
 obtain ⟨c,hc,rc⟩:=qj (o:=2) (k:=1) (hf 2 _ rfl) (gW.slice (k:=7) ju FY (by kernel_rfl) (by decide)) (by omega) rfl (by kernel_rfl)
 exact ⟨⟨a,b,c⟩,⟨⟨ha.2,hb,hc.2,fun x hx=>(hc.1 x hx).1⟩,fun x hx=>(hc.1 x hx).2⟩,q8 (o:=0) ra (q8 rb (q8 rc (RepL.fin hl)))⟩
theorem s6 {H:Type} {enc:TypeId × Value→H} {held:Bool} {α:Type} {T:TypeId} {e:α→List AV} {ok:α→Prop} {fs:Array Field} {base:Nat} {v:Value} {d:DataW H} {p:List MemPlace} (hd:gW prog W T e ok) (ht:prog.underlying T=some (.struct fs))
  (hv:Value.okWide prog W .any base T v) (h:DataW.Trod enc prog W 0 (fun _=>true) held T v d p):∃a,ok a∧bp (I0 W) (.agg (e a)) v:=by
 obtain ⟨cs,rfl,_⟩:=okWide_struct ht hv
 obtain ⟨fuel,h⟩:=h
 obtain ⟨a,h1,h2⟩:=hd enc held fuel _ _ h
 exact ⟨a,h1,cs.toList,by simp,h2⟩
theorem I1:RExtra prog Tryz.lays200_ren:=⟨by kernel_rfl,by kernel_rfl,by kernel_rfl,by kernel_rfl,by kernel_rfl,by kernel_rfl,by kernel_rfl,by kernel_rfl⟩
theorem yP (h:Lib.VarReads prog W "unicode.properties" (Lib.tabData .u8 Lib.propertiesTab)) (h2:Lib.VarReads prog W "unicode.Letter" (Lib.rtabData letterT)):bz W:=
 ⟨pd (g:=0) (by kernel_rfl) (by kernel_rfl) underlying285 underlying5 (by kernel_rfl) (by kernel_rfl) h,
  rvar_of_reads { Tryz.lays200 with } I1 (name:="unicode.Letter") (g:=1) (by kernel_rfl) (by kernel_rfl) h2⟩
end Go.Proofs.YtdilpodccjlkgaaGreatDoor
namespace Go.Proofs.YtdilpodccjlkgaaGreatDoor
open Go.Proofs.Tryz
open Go.Proofs
theorem I2:prog.mayEnter=true:=by kernel_rfl
theorem Io:(Rows.walkHoldsRow.lifted == prog.liftsFinal)=true:=by kernel_rfl
theorem Ip:(prog.make == some Rows.walkHoldsRow.make)=true:=by kernel_rfl
theorem Iq:laidOutB prog=true:=by kernel_rfl
theorem I3:mapsRowed prog=true:=by kernel_rfl
theorem Ir:(prog.stops == [])=true:=by kernel_rfl
theorem Is:(prog.stopKnobs == [])=true:=by kernel_rfl
theorem It:(Rows.walkHoldsRow.plainKeys == prog.plainKeys)=true:=by kernel_rfl
theorem Hl:prog.stopsHeard=true:=by kernel_rfl
theorem I9:(Rows.walkHoldsRow.inPlace == prog.inPlace 4)=true:=by kernel_rfl
theorem Ja:(Rows.walkHoldsRow.unfollowed == prog.unfollowed 4)=true:=by kernel_rfl
theorem I4:(Rows.walkHoldsRow.recurses == prog.recurses 4)=true:=by kernel_rfl
theorem I5:(Rows.walkHoldsRow.named == prog.varsNamed 4)=true:=by kernel_rfl
theorem closed:joinedFacts prog 4 Tryz.f4 Rows.walkHoldsSpec Rows.walkHoldsRow=true:=by
 unfold joinedFacts
 rw[Iq,I3,Ir,Is,I9,Ja,I4,I5,It,Hl,I2,Io,Ip]
 kernel_rfl
end Go.Proofs.YtdilpodccjlkgaaGreatDoor
namespace Go.Proofs.YtdilpodccjlkgaaGreatDoor
open Go.Proofs.Tryz
open Go.Proofs Go.Lib Go.Shelf Go.RowKit Go.WideShapes
set_option maxRecDepth 20000
variable {W:World}
theorem Gi {n:Int} (h:(Lit.int .i64 n).wf=true):bB n:=by simpa [bB,Lit.wf,IntKind.min,IntKind.max,IntKind.signed,IntKind.bits] using h
theorem Hm:gW prog W 89 Eg (fun a=>bB a.int):=fun en held fuel cs x h=>by
 obtain ⟨xs,n,_,_,hl,hxl,hf⟩:=DataW.trod_struct Xl h
 have hl:cs.length=3:=hl.trans (by kernel_rfl)
 have hxl:xs.length=3:=hxl
 obtain ⟨a,ha,ra⟩:=qj (o:=0) (k:=1) (hf 0 _ rfl) (gW.int Zt) (by omega) rfl (by kernel_rfl)
 obtain ⟨b,_,rb⟩:=qj (o:=1) (k:=1) (hf 1 _ rfl) (gW.bool Y8) (by omega) rfl (by kernel_rfl)
 obtain ⟨c,_,rc⟩:=qj (o:=2) (k:=1) (hf 2 _ rfl) Ch (by omega) rfl (by kernel_rfl)
 exact ⟨⟨a,b,c⟩,Gi ha,q8 (o:=0) ra (q8 rb (q8 rc (RepL.fin hl)))⟩
theorem Hn:gW prog W 87 Eh (fun r=>∀x∈r,bB x):=fun en held fuel cs x h=>by
 obtain ⟨l,hl,r⟩:=gW.slice (k:=1) jw (gW.int Zt) (by kernel_rfl) (by decide) en held fuel cs x h
 exact ⟨l,fun x hx=>Gi (hl.1 x hx),r⟩
theorem Iu:gW prog W 38 sX (fun i=>xJ i∧i.args.length≤9223372036854775807∧i.arrays.length≤9223372036854775807):=fun en held fuel cs x h=>by
 obtain ⟨xs,n,_,_,hl,hxl,hf⟩:=DataW.trod_struct Yk h
 have hl:cs.length=2:=hl.trans (by kernel_rfl)
 have hxl:xs.length=2:=hxl
 obtain ⟨a,ha,ra⟩:=qj (o:=0) (k:=1) (hf 0 _ rfl) (gW.slice (k:=3) Xa Hm (by kernel_rfl) (by decide)) (by omega) rfl (by kernel_rfl)
 obtain ⟨b,hb,rb⟩:=qj (o:=1) (k:=1) (hf 1 _ rfl) (gW.slice (k:=1) Zj Hn (by kernel_rfl) (by decide)) (by omega) rfl (by kernel_rfl)
 exact ⟨⟨a,b⟩,⟨⟨ha.1,hb.1⟩,ha.2,hb.2⟩,q8 (o:=0) ra (q8 rb (RepL.fin hl))⟩
end Go.Proofs.YtdilpodccjlkgaaGreatDoor
namespace Go.Proofs.YtdilpodccjlkgaaGreatDoor
open Go.Proofs.Tryz
open Go.Proofs Go.Lib Go.Shelf Go.RowKit Go.WideShapes
set_option maxRecDepth 20000
variable {W:World}
theorem Ho {H:Type} {enc:TypeId × Value→H} {held:Bool} {T:TypeId} {base:Nat} {v:Value} {d:DataW H} {p:List MemPlace} (ht:prog.underlying T=some (.int .u16))
  (hv:Value.okWide prog W .any base T v) (h:DataW.Trod enc prog W 0 (fun _=>true) held T v d p):∃n:Int,(0≤n∧n≤65535)∧v=.int .u16 n:=by
 obtain ⟨n,rfl⟩:=okWide_int ht hv
 obtain ⟨fuel,h⟩:=h
 obtain ⟨m,h1,h2⟩:=gW.int ht enc held fuel _ _ h
 obtain ⟨v,_,e,h2,h3⟩:=h2
 cases e
 cases h2
 exact ⟨n,by simpa [Lit.wf,IntKind.min,IntKind.max,IntKind.signed,IntKind.bits] using h1,rfl⟩
end Go.Proofs.YtdilpodccjlkgaaGreatDoor
