/- Numbers of 16 and of 64 bits, as a call is handed them. No conditions. -/
import Derived.Test.YtdilpodccjlkgaaGreatDoorZy
import Derived.Test.YtdilpodccjlkgaaGreatDoorZn
import Derived.Test.YtdilpodccjlkgaaGreatDoorZv
import Derived.Test.YtdilpodccjlkgaaGreatDoorZh
import Derived.Test.YtdilpodccjlkgaaGreatDoorZb
import Derived.Test.YtdilpodccjlkgaaGreatDoorZc
import Derived.Lib.LaidRTab
import Derived.Test.YtdilpodccjlkgaaGreatDoorRows
import Derived.Test.YtdilpodccjlkgaaGreatDoorChecked
import Derived.ProofKit
import Derived.JoinedOf
set_option linter.unusedVariables false
set_option linter.unusedSimpArgs false
set_option linter.unusedSectionVars false
namespace Go.Proofs.YtdilpodccjlkgaaGreatDoor
open Go.Proofs.Tryz
open Go.Proofs Go.Lib Go.Shelf Go.RowKit
theorem BX:dB prog 99 #[(0,3),(3,1),(4,1),(5,1),(6,1),(7,1),(8,1),(9,13),(22,1)] [.raw (.slice none 0 0),.raw (.slice none 0 0),.raw (.slice none 0 0),.raw (.slice none 0 0),.raw (.slice none 0 0),.raw (.slice none 0 0),.raw (.slice none 0 0),.int .i64 0,.int .i64 0,.int .i64 0,.int .i64 0,.int .i64 0,.raw (.slice none 0 0),.int .i64 0,.int .i64 0,.int .i64 0,.int .i64 0,.int .i64 0,.int .i64 0,.int .i64 0,.int .i64 0,.int .i64 0,.bool false]:=⟨_,_,j8,zeroValue99,fun w=>by kernel_rfl,rfl⟩
variable {E:World}
set_option maxRecDepth 20000
def D4 (a:xw):List AV:=[.int .i64 a.int,.bool a.b,.int .i64 a.arr]
def D5 (r:List Int):List AV:=[.fro 1 (r.map cX)]
def sO (i:zJ):List AV:=[.fro 3 (i.args.map D4),.fro 1 (i.arrays.map D5)]
def lS (n k:Nat):List Int:=List.replicate k (-1)++List.replicate (n - k) 0
theorem FE (n:Nat):lS n 0=List.replicate n 0:=by unfold lS;simp
theorem FF (n:Nat):lS n n=List.replicate n (-1):=by unfold lS;simp
theorem sP {n k:Nat} (h:k≤n):(lS n k).length=n:=by unfold lS;simp;omega
theorem BZ {n k:Nat} (h:k<n):(lS n k).set k (-1)=lS n (k+1):=by
 unfold lS
 rw[List.set_append_right _ _ (by simp),List.length_replicate,Nat.sub_self,show n - k=(n - (k+1))+1 by omega,List.replicate_succ,List.set_cons_zero,List.replicate_succ',qv];rfl
section
variable {α β:Type} {g:Nat→α→β} {d:β} {n k:Nat} {l:List α}
theorem yB:dP g d n (l.take 0)=List.replicate n d:=by unfold dP;simp
theorem D6 (h:l.length≤n):(dP g d n l).length=n:=by unfold dP;simp;omega
theorem gj (h:l.length≤n) (k:Nat):(dP g d n (l.take k)).length=n:=D6 (by rw[w7];omega)
theorem mX (hk:k<l.length) (h:l.length≤n):(dP g d n (l.take k)).set k (g k l[k])=dP g d n (l.take (k+1)):=by
 have hl:((l.take k).zipIdx.map fun q=>g q.2 q.1).length=k:=by simp;omega
 unfold dP
 rw[List.set_append_right _ _ (by rw[hl];exact Nat.le_refl _),hl,Nat.sub_self,w7,w7,Nat.min_eq_left (by omega),Nat.min_eq_left (by omega),show n - k=(n - (k+1))+1 by omega,List.replicate_succ,List.set_cons_zero,qu hk,List.zipIdx_append,w5,qv]
 have:(l.take k).length=k:=by rw[w7];omega
 simp[this]
theorem nE (hk:k<l.length) (h:l.length≤n) (e:g k l[k]=d):dP g d n (l.take k)=dP g d n (l.take (k+1)):=by
 rw[←mX hk h,e]
 refine (List.ext_getElem? fun j=>?_)
 by_cases hj:k=j
 ·subst hj
  rw[List.getElem?_set_self (by rw[gj h];omega)]
  have hl:((l.take k).zipIdx.map fun q=>g q.2 q.1).length=k:=by simp;omega
  unfold dP
  rw[List.getElem?_append_right (by rw[hl];exact Nat.le_refl _),hl,Nat.sub_self,w7,Nat.min_eq_left (by omega),List.getElem?_replicate,if_pos (by omega)]
 ·rw[List.getElem?_set_ne hj]
end
theorem D7 (r:List Int):(r.map cX).flatten=cI r:=oF r
abbrev FG (ints:List Int) (bools:List Bool) (arrs:List Int) (arrays:List (List Int)):GS:=⟨ints,bools,arrs,arrays,0,0,3,0,0,[],0,fun _=>0,false⟩
theorem FH (f:ac) (iw ja jb jc jo jt:Nat) {ids:List Nat} {s:GS} (h:ids.length=s.arrays.length) (i:Nat) (r:List Int) (m:Nat) (hm:m=r.length):(iw,bA.cells 99 (bE f++[.own ja f.vars.length,.own jb f.vars.length,.own jc f.vars.length,.own jo (s.arrays.length+1),.int .i64 s.blk,.int .i64 s.pc,.int .i64 s.en,.int .i64 s.val,.int .i64 s.tr,.own jt s.trace.length,.int .i64 s.st,.int .i64 (s.ck 0),.int .i64 (s.ck 1),.int .i64 (s.ck 2),.int .i64 (s.ck 3),.int .i64 (s.ck 4),.int .i64 (s.ck 5),.int .i64 (s.ck 6),.int .i64 (s.ck 7),.bool s.ended]))::(ja,.grow 1 2 (cI s.ints))::(jb,.grow 1 4 (cB s.bools))::(jc,.grow 1 3 (cI s.arrs))::(jo,.grow 1 87 (ik ids s.arrays++[.own i m]))::(jt,.grow 1 2 (cI s.trace))::[(0,Fz (rm (ids++[i]) (s.arrays++[r])))]=wO f iw ja jb jc jo jt (ids++[i]) { s with arrays:=s.arrays++[r] }:=by
 subst hm
 unfold wO wR FB
 rw[←sN i r h]
 simp only[qz,List.length_singleton]
set_option maxHeartbeats 16000000 in
theorem wo (f:ac) (i:zJ) (hv:f.vars.length≤1000) (ha:i.args.length≤f.vars.length) (hn:i.arrays.length≤40) (hr:∀r∈i.arrays,r.length≤100):aY prog E 30 [.agg (bE f),.agg (sO i)] [] (fun y O=>∃iw ja jb jc jo jt ids,ids.length=i.arrays.length∧y=.po iw 0∧O=wO f iw ja jb jc jo jt ids (rL f i)):=by
 refine zp func30 Z (by decide) Z<|ai<|ya (cs:=_) Z Z Z<|ya (cs:=_) Z Z Z<|za (jI Z)<|z6<|ai<|au jg Z Yc Z Z<|aI Yn Z<|aq Z9 Z<|ao Z<|z6<|zd<|ye (γ:=Nat × Nat × Nat × Nat) [2,3] (fun g=>[(6,.po g.1 0)]) (fun g=>[(g.1,.cells 99 (bE f++[.own g.2.1 f.vars.length,.own g.2.2.1 f.vars.length,.own g.2.2.2 f.vars.length,.raw (.slice none 0 0),.int .i64 0,.int .i64 0,.int .i64 0,.int .i64 0,.int .i64 0,.raw (.slice none 0 0),.int .i64 0,.int .i64 0,.int .i64 0,.int .i64 0,.int .i64 0,.int .i64 0,.int .i64 0,.int .i64 0,.int .i64 0,.bool false])),(g.2.1,.grow 1 2 (cI (List.replicate f.vars.length 0))),(g.2.2.1,.grow 1 4 (cB (List.replicate f.vars.length false))),(g.2.2.2,.grow 1 3 (cI (List.replicate f.vars.length 0)))]) (fun g=>True) ?_ (fun _ _ h=>h) ?_
 ·refine zr (fun j=>false) (by kernel_rfl) Z (zj (.rest _))<|ad 0 Z (yw jv jj Z Z)<|ad 1 Z (cD Z)<|ad 3 Z (cD Z)<|ad 5 Z (cD Z)<|bN.three (i:=2) (j:=4) (m:=6) Z Z Z (by kernel_rfl) ?_ ?_ ?_
  ·refine qg (m:=f.vars.length) jw X8 Z Z Z Z Z (by simp) (by simp) (by show (8:Int)*_≤_;omega) (by omega)<|fun i17=>z6<|yr (i:=4) (j:=6) Z Z (by kernel_rfl) ?_ ?_
   ·refine az.makeB (m:=f.vars.length) jk Yp Z Z Z Z Z (by simp) (by simp) (by show (1:Int)*_≤_;omega) (by omega)<|fun i19=>z6<|aQ 6 Z<|qg (m:=f.vars.length) wy Y1 Z Z Z Z Z (by simp) (by simp) (by show (8:Int)*_≤_;omega) (by omega)<|fun i21=>z6<|ad 7 Z (y3 (cps:=[(0,[_,_,_]),(1,[_]),(2,[_]),(3,[_])]) (rs:=[_,_,_,_,_,_,.raw (.slice none 0 0),.int .i64 0,.int .i64 0,.int .i64 0,.int .i64 0,.int .i64 0,.raw (.slice none 0 0),.int .i64 0,.int .i64 0,.int .i64 0,.int .i64 0,.int .i64 0,.int .i64 0,.int .i64 0,.int .i64 0,.int .i64 0,.bool false]) BX Z Z Z)<|aQ 8 Z<|yo (cs:=_) Z Z Z Z<|fun i23=>ze (zb (zc .t1))<|ze (zb (zc .t2))<|ze (zb (zc .t3))<|ze (zb (zc .t3))<|z6<|ad 9 Z (fU Z)<|bI ?_
    exact ⟨(i23,i17,i19,i21),eo,aK,aH,trivial⟩
   ·refine qg (m:=f.vars.length) wy Y1 Z Z Z Z Z (by simp) (by simp) (by show (8:Int)*_≤_;omega) (by omega)<|fun i21=>z6<|aQ 4 Z<|az.makeB (m:=f.vars.length) jk Yp Z Z Z Z Z (by simp) (by simp) (by show (1:Int)*_≤_;omega) (by omega)<|fun i19=>z6<|ad 7 Z (y3 (cps:=[(0,[_,_,_]),(1,[_]),(2,[_]),(3,[_])]) (rs:=[_,_,_,_,_,_,.raw (.slice none 0 0),.int .i64 0,.int .i64 0,.int .i64 0,.int .i64 0,.int .i64 0,.raw (.slice none 0 0),.int .i64 0,.int .i64 0,.int .i64 0,.int .i64 0,.int .i64 0,.int .i64 0,.int .i64 0,.int .i64 0,.int .i64 0,.bool false]) BX Z Z Z)<|aQ 8 Z<|yo (cs:=_) Z Z Z Z<|fun i23=>ze (zb (zc .t2))<|ze (zb (zc .t2))<|ze (zb (zc .t3))<|ze (zb (zc .t3))<|z6<|ad 9 Z (fU Z)<|bI ?_
    exact ⟨(i23,i17,i19,i21),eo,aK,aH,trivial⟩
  ·refine az.makeB (m:=f.vars.length) jk Yp Z Z Z Z Z (by simp) (by simp) (by show (1:Int)*_≤_;omega) (by omega)<|fun i19=>z6<|yr (i:=2) (j:=6) Z Z (by kernel_rfl) ?_ ?_
   ·refine qg (m:=f.vars.length) jw X8 Z Z Z Z Z (by simp) (by simp) (by show (8:Int)*_≤_;omega) (by omega)<|fun i17=>z6<|aQ 6 Z<|qg (m:=f.vars.length) wy Y1 Z Z Z Z Z (by simp) (by simp) (by show (8:Int)*_≤_;omega) (by omega)<|fun i21=>z6<|ad 7 Z (y3 (cps:=[(0,[_,_,_]),(1,[_]),(2,[_]),(3,[_])]) (rs:=[_,_,_,_,_,_,.raw (.slice none 0 0),.int .i64 0,.int .i64 0,.int .i64 0,.int .i64 0,.int .i64 0,.raw (.slice none 0 0),.int .i64 0,.int .i64 0,.int .i64 0,.int .i64 0,.int .i64 0,.int .i64 0,.int .i64 0,.int .i64 0,.int .i64 0,.bool false]) BX Z Z Z)<|aQ 8 Z<|yo (cs:=_) Z Z Z Z<|fun i23=>ze (zb (zc .t1))<|ze (zb (zc .t3))<|ze (zb (zc .t3))<|ze (zb (zc .t3))<|z6<|ad 9 Z (fU Z)<|bI ?_
    exact ⟨(i23,i17,i19,i21),eo,aK,aH,trivial⟩
   ·refine qg (m:=f.vars.length) wy Y1 Z Z Z Z Z (by simp) (by simp) (by show (8:Int)*_≤_;omega) (by omega)<|fun i21=>z6<|aQ 2 Z<|qg (m:=f.vars.length) jw X8 Z Z Z Z Z (by simp) (by simp) (by show (8:Int)*_≤_;omega) (by omega)<|fun i17=>z6<|ad 7 Z (y3 (cps:=[(0,[_,_,_]),(1,[_]),(2,[_]),(3,[_])]) (rs:=[_,_,_,_,_,_,.raw (.slice none 0 0),.int .i64 0,.int .i64 0,.int .i64 0,.int .i64 0,.int .i64 0,.raw (.slice none 0 0),.int .i64 0,.int .i64 0,.int .i64 0,.int .i64 0,.int .i64 0,.int .i64 0,.int .i64 0,.int .i64 0,.int .i64 0,.bool false]) BX Z Z Z)<|aQ 8 Z<|yo (cs:=_) Z Z Z Z<|fun i23=>ze (zb (zc .t2))<|ze (zb (zc .t3))<|ze (zb (zc .t3))<|ze (zb (zc .t3))<|z6<|ad 9 Z (fU Z)<|bI ?_
    exact ⟨(i23,i17,i19,i21),eo,aK,aH,trivial⟩
  ·refine qg (m:=f.vars.length) wy Y1 Z Z Z Z Z (by simp) (by simp) (by show (8:Int)*_≤_;omega) (by omega)<|fun i21=>z6<|yr (i:=2) (j:=4) Z Z (by kernel_rfl) ?_ ?_
   ·refine qg (m:=f.vars.length) jw X8 Z Z Z Z Z (by simp) (by simp) (by show (8:Int)*_≤_;omega) (by omega)<|fun i17=>z6<|aQ 4 Z<|az.makeB (m:=f.vars.length) jk Yp Z Z Z Z Z (by simp) (by simp) (by show (1:Int)*_≤_;omega) (by omega)<|fun i19=>z6<|ad 7 Z (y3 (cps:=[(0,[_,_,_]),(1,[_]),(2,[_]),(3,[_])]) (rs:=[_,_,_,_,_,_,.raw (.slice none 0 0),.int .i64 0,.int .i64 0,.int .i64 0,.int .i64 0,.int .i64 0,.raw (.slice none 0 0),.int .i64 0,.int .i64 0,.int .i64 0,.int .i64 0,.int .i64 0,.int .i64 0,.int .i64 0,.int .i64 0,.int .i64 0,.bool false]) BX Z Z Z)<|aQ 8 Z<|yo (cs:=_) Z Z Z Z<|fun i23=>ze (zb (zc .t3))<|ze (zb (zc .t2))<|ze (zb (zc .t3))<|ze (zb (zc .t3))<|z6<|ad 9 Z (fU Z)<|bI ?_
    exact ⟨(i23,i17,i19,i21),eo,aK,aH,trivial⟩
   ·refine az.makeB (m:=f.vars.length) jk Yp Z Z Z Z Z (by simp) (by simp) (by show (1:Int)*_≤_;omega) (by omega)<|fun i19=>z6<|aQ 2 Z<|qg (m:=f.vars.length) jw X8 Z Z Z Z Z (by simp) (by simp) (by show (8:Int)*_≤_;omega) (by omega)<|fun i17=>z6<|ad 7 Z (y3 (cps:=[(0,[_,_,_]),(1,[_]),(2,[_]),(3,[_])]) (rs:=[_,_,_,_,_,_,.raw (.slice none 0 0),.int .i64 0,.int .i64 0,.int .i64 0,.int .i64 0,.int .i64 0,.raw (.slice none 0 0),.int .i64 0,.int .i64 0,.int .i64 0,.int .i64 0,.int .i64 0,.int .i64 0,.int .i64 0,.int .i64 0,.int .i64 0,.bool false]) BX Z Z Z)<|aQ 8 Z<|yo (cs:=_) Z Z Z Z<|fun i23=>z6<|ad 9 Z (fU Z)<|bI ?_
    exact ⟨(i23,i17,i19,i21),eo,aK,aH,trivial⟩
 ·rintro ⟨i23,i17,i19,i21⟩ _
  refine ai<|aJ Z<|ap Z<|za (zf j8 Z Y6 (by decide) Z Z)<|za (zf Ze Z sizeOf93 (by decide) Z Z)<|yq (l:=[_]) (new:=[_,_,_,_,_,_,_,_,_,_,_,_,_,_,_,_,_,_,_,_,_,_,_]) sizeOf93 Z Z Z Z Z Z .head Z Z<|z6<|gP (off:=6) (k:=1) (T:=87) (fun _=>.head) Z<|fun jo=>gP (off:=12) (k:=1) (T:=2) (fun _=>.t1) Z<|fun jt=>zz aS.bagNew<|zz (zb (zc .head))<|zz (zb (zc .t1))<|zz (zb (zc .t2))<|zz (zb (zc .t6))<|zz (zb (zc .t6))<|zz (zb (zc .t6))<|zz (zb (zc .t6))<|zd<|ai<|aJ Z<|ap Z<|za (zf j8 Z j7 (by decide) Z Z)<|za (zo (c:=.own _ _) jf Z ⟨_,.head⟩ Z)<|za (qo wy Z)<|aa Z<|z6<|zm<|y8 (γ:=Nat) [2,3,6,32] (fun k=>[(33,.int .i64 k)]) (fun k=>wO f i23 i17 i19 i21 jo jt [] (FG (List.replicate f.vars.length 0) (List.replicate f.vars.length false) (lS f.vars.length k) [])) (fun k=>k≤f.vars.length) (fun k=>f.vars.length - k) 0 aK ⟨_,(.refl _),by rw[FE];rfl⟩ (qw _) ?_
  rintro k hk
  refine ai<|ay Z Z<|z6<|zd<|zt Z (fun ck=>?_) (fun ck=>?_)
  ·have hk2:k<f.vars.length:=by simp at ck;omega
   refine zi<|zd<|zm<|ai<|aa Z<|ao Z<|z6<|aW<|aJ Z<|ap Z<|za (zf j8 Z j7 (by decide) Z Z)<|za (zo (c:=.own _ _) jf Z ⟨_,.head⟩ Z)<|aa Z<|za (yi (j:=k) wy wz Z Z Z ⟨_,.t3⟩ ((aD _).trans (sP hk)) hk2)<|yy (j:=k) wz Z Z .t3 (by rw[sP hk];exact hk2)<|z6<|aW<|aE Z Z<|aa Z<|z6 ?_
   exact ⟨k+1,gH,aK,⟨_,(.refl _),by rw[←BZ hk2]⟩,hk2,by omega⟩
  ·obtain rfl:k=f.vars.length:=by simp at ck;omega
   rw[FF]
   refine y6<|zd<|ai<|au Yk Z sizeOf35 Z Z<|aI isAgg35 Z<|aq Xa Z<|aa Z<|z6<|zm<|y8 (γ:=Nat) [2,3,6,44,45] (fun k=>[(46,.int .i64 k)]) (fun k=>wO f i23 i17 i19 i21 jo jt [] (FG (dP (rJ f) 0 f.vars.length (i.args.take k)) (dP (rK f) false f.vars.length (i.args.take k)) (dP (qB f) (-1) f.vars.length (i.args.take k)) [])) (fun k=>k≤i.args.length) (fun k=>i.args.length - k) 0 aK ⟨_,(.refl _),by rw[yB,yB,yB]⟩ (qw _) ?_
   rintro k hk
   refine ai<|ay Z Z<|z6<|zd<|zt Z (fun ck=>?_) (fun ck=>?_)
   ·have hk2:k<i.args.length:=by simp at ck;omega
    obtain ⟨a,hea⟩:∃a,i.args[k]=a:=⟨_,rfl⟩
    have hag:i.args[k]?=some a:=by rw[qt hk2,hea]
    obtain ⟨v,hev⟩:∃v,f.vars[k]?=some v:=⟨_,qt (by omega)⟩
    have hty:nW f k=v.ty:=by unfold nW;rw[hev];rfl
    have sI:=mX (g:=rJ f) (d:=0) hk2 ha
    have sB:=mX (g:=rK f) (d:=false) hk2 ha
    have sA:=mX (g:=qB f) (d:=-1) hk2 ha
    have kI:=nE (g:=rJ f) (d:=0) hk2 ha
    have kB:=nE (g:=rK f) (d:=false) hk2 ha
    have kA:=nE (g:=qB f) (d:=-1) hk2 ha
    rw[hea] at sI sB sA kI kB kA
    refine zi<|zd<|zm<|ai<|aa Z<|za (bv k Xa sizeOf89 Z Z Z hag)<|ae isAgg89 sizeOf89 Z Z<|y7 (cs:=[.int .i64 0,.bool false,.int .i64 0]) zeroValue89 Z Z<|fun i9=>ao Z<|y1 sizeOf89 Z Z Z Z Z Z .head Z<|ze (yd (t:=9) Z .head)<|z6<|ai<|au jg Z Yc Z Z<|aI Yn Z<|aa Z<|za (bv k Z9 Yd Z Z Z hev)<|au Zm Z X2 Z Z<|aA Xh Z<|z6<|zm<|ai<|ak Z Z<|ab Z<|z6<|zt Z (fun c0=>?_) (fun c0=>?_)
    ·have c0:nW f k=0:=hty.trans (by simpa using c0)
     rw[show rJ f k a=a.int by unfold rJ;rw[if_pos c0]] at sI
     have eB:=kB (by unfold rK;rw[if_pos c0])
     have eA:=kA (by unfold qB;rw[if_pos c0])
     refine zr (fun j=>Nat.beq j 8) (by kernel_rfl) Z (zj (.r (.rest _)))<|ad 0 Z (cJ Z)<|ad 1 Z (zw Z)<|ad 2 Z (zf j8 Z Zu (by decide) Z Z)<|ad 3 Z (zo (c:=.own _ _) Yf Z ⟨_,.head⟩ Z)<|ad 4 Z (cD Z)<|ad 5 Z (bK Xl Z Z5 Z Z)<|ad 6 Z (cQ Zx Z)<|aQ 7 Z<|za (yi (j:=k) jw Z5 Z Z Z ⟨_,.head⟩ ((aD _).trans (gj ha k)) (by omega))<|z6<|yf<|yh (i:=8) Z (by kernel_rfl) (by kernel_rfl)<|yy (j:=k) Z5 Z Z .t1 (by rw[gj ha];omega)<|z6<|ym (by kernel_rfl)<|aW<|aE Z Z<|aa Z<|z6 ?_
     exact ⟨k+1,nJ,aK,⟨_,(.refl _),by rw[←sI,←eB,←eA]⟩,hk2,by omega⟩
    ·have c0:¬nW f k=0:=fun h=>c0 (by rw[hty] at h;simpa using h)
     have eI:=kI (by unfold rJ;rw[if_neg c0])
     refine ai<|ak Z Z<|ab Z<|z6<|zt Z (fun c1=>?_) (fun c1=>?_)
     ·have c1:nW f k=1:=hty.trans (by simpa using c1)
      rw[show rK f k a=a.b by unfold rK;rw[if_neg c0,if_pos c1]] at sB
      have eA:=kA (by unfold qB;rw[if_neg c0,if_pos c1])
      refine zr (fun j=>Nat.beq j 8) (by kernel_rfl) Z (zj (.r (.rest _)))<|ad 0 Z (cJ Z)<|ad 1 Z (zw Z)<|ad 2 Z (zf j8 Z X3 (by decide) Z Z)<|ad 3 Z (zo (c:=.own _ _) Xf Z ⟨_,.head⟩ Z)<|ad 4 Z (cD Z)<|ad 5 Z (bK Xl Z Z6 Z Z)<|ad 6 Z (yx (c:=.bool _) Ym Z)<|aQ 7 Z<|za (yi (j:=k) jk Z6 Z Z Z ⟨_,.t1⟩ ((aN _).trans (gj ha k)) (by omega))<|z6<|yf<|yh (i:=8) Z (by kernel_rfl) (by kernel_rfl)<|qb (j:=k) Z6 Z Z .t2 (by rw[gj ha];omega)<|z6<|ym (by kernel_rfl)<|aW<|aE Z Z<|aa Z<|z6 ?_
      exact ⟨k+1,nJ,aK,⟨_,(.refl _),by rw[←sB,←eI,←eA]⟩,hk2,by omega⟩
     ·have c1:¬nW f k=1:=fun h=>c1 (by rw[hty] at h;simpa using h)
      rw[show qB f k a=a.arr by unfold qB;rw[if_neg c0,if_neg c1]] at sA
      have eB:=kB (by unfold rK;rw[if_neg c0,if_neg c1])
      refine zr (fun j=>Nat.beq j 8) (by kernel_rfl) Z (zj (.r (.rest _)))<|ad 0 Z (cJ Z)<|ad 1 Z (zw Z)<|ad 2 Z (zf j8 Z j7 (by decide) Z Z)<|ad 3 Z (zo (c:=.own _ _) jf Z ⟨_,.head⟩ Z)<|ad 4 Z (cD Z)<|ad 5 Z (bK Xl Z wz Z Z)<|ad 6 Z (cQ j6 Z)<|aQ 7 Z<|za (yi (j:=k) wy wz Z Z Z ⟨_,.t2⟩ ((aD _).trans (gj ha k)) (by omega))<|z6<|yf<|yh (i:=8) Z (by kernel_rfl) (by kernel_rfl)<|yy (j:=k) wz Z Z .t3 (by rw[gj ha];omega)<|z6<|ym (by kernel_rfl)<|aW<|aE Z Z<|aa Z<|z6 ?_
      exact ⟨k+1,nJ,aK,⟨_,(.refl _),by rw[←sA,←eI,←eB]⟩,hk2,by omega⟩
   ·obtain rfl:k=i.args.length:=by simp at ck;omega
    rw[qy]
    refine y6<|zd<|ai<|au Yk Z Yi Z Z<|aI X7 Z<|aq Zj Z<|aa Z<|z6<|zm<|y8 (γ:=Nat × Nat × List Nat) [6,87,88] (fun g=>[(89,.int .i64 g.1)]) (fun g=>wO f i23 i17 i19 i21 g.2.1 jt g.2.2 (FG (dP (rJ f) 0 f.vars.length i.args) (dP (rK f) false f.vars.length i.args) (dP (qB f) (-1) f.vars.length i.args) (i.arrays.take g.1))) (fun g=>g.1≤i.arrays.length∧g.2.2.length=(i.arrays.take g.1).length) (fun g=>i.arrays.length - g.1) (0,jo,[]) aK aH (⟨qw _,Z⟩) ?_
    rintro ⟨k,jo,ids⟩ ⟨hk,hids⟩
    try dsimp only at *
    refine ai<|ay Z Z<|z6<|zd<|zt Z (fun ck=>?_) (fun ck=>?_)
    ·have hk2:k<i.arrays.length:=by simp at ck;omega
     obtain ⟨r,her⟩:∃r,i.arrays[k]=r:=⟨_,rfl⟩
     have hrg:i.arrays[k]?=some r:=by rw[qt hk2,her]
     have hrl:=hr r (w4 hrg)
     have hts:i.arrays.take (k+1)=i.arrays.take k++[r]:=by rw[qu hk2,her]
     have htl:(i.arrays.take k).length=k:=by rw[w7];omega
     refine zi<|zd<|zm<|ai<|za (bv k Zj Zu Z Z Z hrg)<|aI Yf Z<|za (nI Z)<|z6<|zr (fun j=>Nat.beq j 12) (by kernel_rfl) Z (zj (.r (.rest _)))<|ad 0 Z (cJ Z)<|ad 1 Z (cJ Z)<|ad 2 Z (zw Z)<|ad 3 Z (zf j8 Z Yi (by decide) Z Z)<|ad 4 Z (zo (c:=.own _ _) X7 Z ⟨_,.head⟩ Z)<|ad 6 Z (wt Z)<|aQ 5 Z<|yj (k:=1) jw X8<|fun i98=>z6<|aQ 7 Z<|yu (k:=1) jw X8 Z Z Z Z Z (fun _=>.head) Z (by decide) (by rw[D7];exact bV r) (by show (_+_)*8≤_;simp;omega) (by simp;omega)<|fun i100=>z6<|aQ 8 Z<|y4 (rows:=[[_]]) DY Z Z Z Z Z<|z6<|aQ 9 Z<|yu (k:=1) Zj type87 Z Z Z Z Z (fun _=>.t4) (by show _=(i.arrays.take k).length*1;rw[jE hids];omega) (by decide) Z (by show ((i.arrays.take k).length+1)*24≤_;omega) (by show (i.arrays.take k).length+1≤_;omega)<|fun i102=>z6<|yp (i:=10) Z (by kernel_rfl) (by kernel_rfl) (by kernel_rfl) (by kernel_rfl) (zw Z)<|ad 11 Z (zf j8 Z Yi (by decide) Z Z)<|yf<|yh (i:=12) Z (by kernel_rfl) (by kernel_rfl)<|yq (l:=[_]) (new:=[_,_,_,_,_,_,_,_,_,_,_,_,_,_,_,_,_,_,_,_,_,_,_]) Yi Z Z Z Z Z Z .head Z Z<|z6<|ym (by kernel_rfl)<|zz (aS.bagIn (X':=rm (ids++[i100]) (i.arrays.take k++[r])) .t1 ((by rw[List.nil_append,D7];exact wm i100 r hids)) .t6)<|aW<|aE Z Z<|aa Z ?_
     refine z6 ?_
     exact ⟨(k+1,i102,ids++[i100]),db,aK,⟨_,(.refl _),by dsimp only;rw[hts];exact FH f i23 i17 i19 i21 i102 jt (s:=FG (dP (rJ f) 0 f.vars.length i.args) (dP (rK f) false f.vars.length i.args) (dP (qB f) (-1) f.vars.length i.args) (i.arrays.take k)) hids i100 r _ (by simp)⟩,⟨hk2,by dsimp only;rw[hts];simp[hids]⟩,by dsimp only;omega⟩
    ·obtain rfl:k=i.arrays.length:=by simp at ck;omega
     rw[qy] at hids
     rw[qy]
     refine y6<|ai<|aJ Z<|za (fU Z)<|z6<|zg<|zn (x:=.po _ _) Z ?_
     exact ⟨i23,i17,i19,i21,jo,jt,ids,hids,rfl,rfl⟩
end Go.Proofs.YtdilpodccjlkgaaGreatDoor
namespace Go.Proofs.YtdilpodccjlkgaaGreatDoor
open Go.Proofs.Tryz
open Go.Proofs Go.Lib Go.Shelf Go.RowKit
variable {E:World}
set_option maxRecDepth 20000
theorem wq (f:ac) (i:zJ) (hp:f.params.length≤f.vars.length) (hl:i.args.length≤281474976710656) (hl2:i.arrays.length≤281474976710656):aM prog E 13 [.agg (bE f),.agg (sO i)] (.int .i64 (fO f i)):=by
 refine zp func13 Z (by decide) Z<|ai<|ya (cs:=_) Z Z Z<|ya (cs:=_) Z Z Z<|ao Z<|z6<|zd<|ai<|au Yk Z sizeOf35 Z Z<|aI isAgg35 Z<|aq Xa Z<|au jg Z j7 Z Z<|aI jf Z<|aq wy Z<|aO Z Z<|z6<|zy Z (fun c1=>?_) (fun c1=>?_)
 ·have c1:¬i.args.length=f.params.length:=by simp at c1;omega
  refine ai<|ao Z<|z6<|zg<|zn (x:=.int _ _) Z ?_
  unfold fO;rw[if_pos c1]
 ·have c1:i.args.length=f.params.length:=by simp at c1;omega
  refine zi<|zd<|ai<|au Yk Z sizeOf35 Z Z<|aI isAgg35 Z<|aq Xa Z<|aa Z<|z6<|zm<|y8 (γ:=Nat) [2,3,17,18] (fun k=>[(19,.int .i64 k)]) (fun k=>[]) (fun k=>k≤i.args.length∧∀(j:Nat) a,j<k→i.args[j]?=some a→iI f i (a,j)=false) (fun k=>i.args.length - k) 0 aK aH (⟨qw _,fun j a h=>absurd h (Nat.not_lt_zero _)⟩) ?_
  rintro k ⟨hk,hok⟩
  refine ai<|ay Z Z<|z6<|zd<|zt Z (fun ck=>?_) (fun ck=>?_)
  ·have hk2:k<i.args.length:=by simp at ck;omega
   obtain ⟨a,hea⟩:∃a,i.args[k]=a:=⟨_,rfl⟩
   have hag:i.args[k]?=some a:=by rw[qt hk2,hea]
   obtain ⟨v,hev⟩:∃v,f.vars[k]?=some v:=⟨_,qt (by omega)⟩
   have hty:nW f k=v.ty:=by unfold nW;rw[hev];rfl
   refine zi<|zd<|zm<|ai<|aa Z<|za (bv k Xa sizeOf89 Z Z Z hag)<|ae isAgg89 sizeOf89 Z Z<|y7 (cs:=[.int .i64 0,.bool false,.int .i64 0]) zeroValue89 Z Z<|fun i6=>ao Z<|y1 sizeOf89 Z Z Z Z Z Z .head Z<|ze (yd (t:=6) Z .head)<|z6<|zd<|ye (γ:=Bool) [2,3,17,18,19] (fun z=>[(43,.bool z)]) (fun z=>[]) (fun z=>z=iI f i (a,k)) ?_ (fun _ _ h=>h) ?_
   ·refine aW<|au jg Z Yc Z Z<|aI Yn Z<|aa Z<|za (bv k Z9 Yd Z Z Z hev)<|au Zm Z X2 Z Z<|aA Xh Z<|ak Z Z<|aj Z<|zq (s:=31) Z (fun c2=>?_) (fun c2=>?_)
    ·have d2:nW f k=2:=hty.trans (by simpa using c2)
     refine z8 Z Z c2<|au Xl Z wz Z Z<|z8 Z Z c2<|aA j6 Z<|z8 Z Z c2<|ay Z Z<|z8 Z Z c2<|aj Z<|zq (s:=35) Z (fun c3=>?_) (fun c3=>?_)
     ·have d3:a.arr < -1:=by simpa using c3
      refine z7 Z Z c3<|z7 Z Z c3<|z7 Z Z c3<|z7 Z Z c3<|z7 Z Z c3<|z7 Z Z c3<|z8 Z Z c2<|aw Z c3 Z<|aw Z c2 Z<|z6 ?_
      exact ⟨_,nJ,aK,aH,by unfold iI;simp[d2,d3]⟩
     ·have d3:¬a.arr < -1:=by simpa using c3
      refine z8 Z Z c3<|au Xl Z wz Z Z<|z8 Z Z c3<|aA j6 Z<|z8 Z Z c3<|au Yk Z Yi Z Z<|z8 Z Z c3<|aI X7 Z<|z8 Z Z c3<|aq Zj Z<|z8 Z Z c3<|za (q5 Z Z)<|z8 Z Z c2<|ax Z c3 Z<|aw Z c2 Z<|z6 ?_
      exact ⟨_,nJ,aK,aH,by unfold iI;simp[d2,d3]⟩
    ·have d2:¬nW f k=2:=fun h=>by rw[hty] at h;simp[h] at c2
     refine z7 Z Z c2<|z7 Z Z c2<|z7 Z Z c2<|z7 Z Z c2<|zk Z Z<|zk Z Z<|zk Z Z<|zk Z Z<|zk Z Z<|zk Z Z<|z7 Z Z c2<|ax Z c2 Z<|z6 ?_
     exact ⟨_,nJ,aK,aH,by unfold iI;simp[d2]⟩
   ·rintro z hz
    refine zy Z (fun cz=>?_) (fun cz=>?_)
    ·have hb:i.args.zipIdx.any (iI f i)=true:=List.any_eq_true.2 ⟨(a,k),w4 (i:=k) (by rw[List.getElem?_zipIdx,hag];simp),hz.symm.trans cz⟩
     refine ai<|ao Z<|z6<|zg<|zn (x:=.int _ _) Z ?_
     unfold fO;rw[if_neg (fun h=>h c1),if_pos hb]
    ·refine zi<|aW<|aE Z Z<|aa Z<|z6 ?_
     exact ⟨k+1,gH,aK,aH,⟨hk2,fun j b hj hb=>by rcases (by omega:j<k∨j=k) with h|rfl;exact hok j b h hb;rw[hag] at hb;cases hb;exact hz.symm.trans cz⟩,by omega⟩
  ·obtain rfl:k=i.args.length:=by simp at ck;omega
   have hb:¬i.args.zipIdx.any (iI f i)=true:=fun h=>by
    obtain ⟨⟨a,j⟩,hm,hh⟩:=List.any_eq_true.1 h
    obtain ⟨hj,e⟩:=List.mk_mem_zipIdx_iff_getElem?.1 hm |> fun h=>(⟨(List.getElem?_eq_some_iff.1 h).1,h⟩:j<i.args.length∧_)
    rw[hok j a hj e] at hh;cases hh
   refine y6<|zd<|ai<|au Yk Z Yi Z Z<|aI X7 Z<|aq Zj Z<|aZ Z Z<|z6<|zt Z (fun c32=>?_) (fun c32=>?_)
   ·have c32:32<i.arrays.length:=by omega
    refine ai<|ao Z<|z6<|zg<|zn (x:=.int _ _) Z ?_
    unfold fO;rw[if_neg (fun h=>h c1),if_neg hb,if_pos c32]
   ·have c32:¬32<i.arrays.length:=by omega
    refine zi<|zd<|ai<|au Yk Z Yi Z Z<|aI X7 Z<|aq Zj Z<|aa Z<|z6<|zm<|y8 (γ:=Nat) [50,51] (fun k=>[(52,.int .i64 k)]) (fun k=>[]) (fun k=>k≤i.arrays.length∧∀r∈i.arrays.take k,decide (64<r.length)=false) (fun k=>i.arrays.length - k) 0 aK aH (⟨qw _,fun r h=>by simp at h⟩) ?_
    rintro k ⟨hk,hok⟩
    refine ai<|ay Z Z<|z6<|zd<|zt Z (fun ck=>?_) (fun ck=>?_)
    ·have hk2:k<i.arrays.length:=by simp at ck;omega
     obtain ⟨r,her⟩:∃r,i.arrays[k]=r:=⟨_,rfl⟩
     have hrg:i.arrays[k]?=some r:=by rw[qt hk2,her]
     refine zi<|zd<|zm<|ai<|za (bv k Zj Zu Z Z Z hrg)<|aI Yf Z<|za (nI Z)<|z6<|ai<|be Z<|aq jw Z<|aZ Z Z<|z6<|zt Z (fun cr=>?_) (fun cr=>?_)
     ·have cr:64<r.length:=by omega
      have hb4:i.arrays.any (fun r=>decide (64<r.length))=true:=List.any_eq_true.2 ⟨r,w4 hrg,w8 cr⟩
      refine ai<|ao Z<|z6<|zg<|zn (x:=.int _ _) Z ?_
      unfold fO;rw[if_neg (fun h=>h c1),if_neg hb,if_neg c32,if_pos hb4]
     ·have cr:¬64<r.length:=by omega
      refine zi<|aW<|aE Z Z<|aa Z<|z6 ?_
      exact ⟨k+1,eo,aK,aH,⟨hk2,fun q hq=>by rw[qu hk2] at hq;rcases List.mem_append.1 hq with hq|hq;exact hok q hq;rw[List.mem_singleton.1 hq,her];exact w9 cr⟩,by omega⟩
    ·obtain rfl:k=i.arrays.length:=by simp at ck;omega
     rw[qy] at hok
     have hb4:¬i.arrays.any (fun r=>decide (64<r.length))=true:=fun h=>by
      obtain ⟨r,hm,hh⟩:=List.any_eq_true.1 h
      rw[hok r hm] at hh;cases hh
     refine y6<|ai<|ao Z<|z6<|zg<|zn (x:=.int _ _) Z ?_
     unfold fO;rw[if_neg (fun h=>h c1),if_neg hb,if_neg c32,if_neg hb4]
end Go.Proofs.YtdilpodccjlkgaaGreatDoor
namespace Go.Proofs.YtdilpodccjlkgaaGreatDoor
open Go.Proofs.Tryz
open Go.Proofs Go.Lib Go.Shelf Go.RowKit
variable {E:World}
set_option maxRecDepth 20000
end Go.Proofs.YtdilpodccjlkgaaGreatDoor
namespace Go.Proofs.YtdilpodccjlkgaaGreatDoor
open Go.Proofs.Tryz
open Go.Proofs Go.Lib Go.Shelf Go.RowKit
variable {E:World}
set_option maxRecDepth 20000
def iD (i:zJ):Bool:=decide (i.args.length≤20)&&(decide (i.arrays.length≤40)&&i.arrays.all fun r=>decide (r.length≤100))
theorem uc (i:zJ) (hl:i.args.length≤9223372036854775807) (hl2:i.arrays.length≤9223372036854775807):aM prog E 12 [.agg (sO i)] (.bool (iD i)):=by
 refine zp func12 Z (by decide) Z<|ai<|ya (cs:=_) Z Z Z<|ab Z<|z6<|zd<|ai<|au Yk Z sizeOf35 Z Z<|aI isAgg35 Z<|aq Xa Z<|aZ Z Z<|aj Z<|zq (s:=9) Z (fun c1=>?_) (fun c1=>?_)
 ·refine z7 Z Z c1<|z7 Z Z c1<|z7 Z Z c1<|z7 Z Z c1<|aw Z c1 Z<|z6<|yt Z Z<|ai<|ab Z<|z6<|zg<|zn (x:=.bool _) Z ?_
  unfold iD;rw[w9 (fun h=>by simp at c1;omega)];rfl
 ·have h1:i.args.length≤20:=by simp at c1;omega
  refine z8 Z Z c1<|au Yk Z Yi Z Z<|z8 Z Z c1<|aI X7 Z<|z8 Z Z c1<|aq Zj Z<|z8 Z Z c1<|aZ Z Z<|ax Z c1 Z<|z6<|zy Z (fun c2=>?_) (fun c2=>?_)
  ·refine ai<|ab Z<|z6<|zg<|zn (x:=.bool _) Z ?_
   unfold iD;rw[w8 h1,w9 (fun h=>by simp at c2;omega)];rfl
  ·have h2:i.arrays.length≤40:=by simp at c2;omega
   refine zi<|zd<|ai<|au Yk Z Yi Z Z<|aI X7 Z<|aq Zj Z<|aa Z<|z6<|zm<|y8 (γ:=Nat) [16,17] (fun k=>[(18,.int .i64 k)]) (fun k=>[]) (fun k=>k≤i.arrays.length∧∀r∈i.arrays.take k,r.length≤100) (fun k=>i.arrays.length - k) 0 aK aH (⟨qw _,fun _ h=>by cases h⟩) ?_
   rintro k ⟨hk,hall⟩
   refine ai<|ay Z Z<|z6<|zd<|zt Z (fun ck=>?_) (fun ck=>?_)
   ·have hk2:k<i.arrays.length:=by omega
    refine zi<|zd<|zm<|ai<|za (bv k Zj Zu Z Z Z (qt hk2))<|aI Yf Z<|za (nI Z)<|z6<|ai<|be Z<|aq jw Z<|aZ Z Z<|z6<|zt Z (fun cr=>?_) (fun cr=>?_)
    ·refine ai<|ab Z<|z6<|zg<|zn (x:=.bool _) Z ?_
     unfold iD;rw[w8 h1,w8 h2,Bool.true_and,Bool.true_and];exact jb (List.all_eq_false.2 ⟨i.arrays[k],qx hk2,by simp;omega⟩).symm
    ·have hall2:∀r∈i.arrays.take (k+1),r.length≤100:=fun r hr=>by
      rw[qu hk2] at hr
      rcases List.mem_append.1 hr with h|h
      ·exact hall r h
      ·rw[List.mem_singleton.1 h];omega
     refine zi<|aW<|aE Z Z<|aa Z<|z6 ?_
     exact ⟨k+1,eo,aK,aH,⟨hk2,hall2⟩,by omega⟩
   ·obtain rfl:k=i.arrays.length:=by omega
    rw[qy] at hall
    refine y6<|ai<|ab Z<|z6<|zg<|zn (x:=.bool _) Z ?_
    unfold iD;rw[w8 h1,w8 h2,Bool.true_and,Bool.true_and];exact jb (List.all_eq_true.2 fun r hr=>w8 (hall r hr)).symm
end Go.Proofs.YtdilpodccjlkgaaGreatDoor
namespace Go.Proofs.YtdilpodccjlkgaaGreatDoor
open Go.Proofs.Tryz
open Go.Proofs Go.Lib Go.Shelf Go.RowKit
variable {E:World}
set_option maxRecDepth 20000
end Go.Proofs.YtdilpodccjlkgaaGreatDoor
namespace Go.Proofs.YtdilpodccjlkgaaGreatDoor
open Go.Proofs.Tryz
open Go.Proofs Go.Lib Go.Shelf Go.RowKit
variable {E:World}
set_option maxRecDepth 20000
theorem ud {f:ac} {j:Nat} (h:j<f.blocks.length):(Ed f)[j]?=some (jA f (j:Int)):=by unfold Ed;rw[w2,eM h];rfl
theorem sQ {f:ac}:∀(k:Nat) (s:GS),(ic f k s).ended=false→ic f (k+1) s=dn f (ic f k s)
 |0,s,h=>by
  have h:s.ended=false:=h
  show (if s.ended=true then s else ic f 0 (dn f s))=_
  rw[if_neg (by rw[h];decide)];rfl
 |k+1,s,h=>by
  have e:ic f (k+1) s=if s.ended=true then s else ic f k (dn f s):=rfl
  by_cases hs:s.ended=true
  ·rw[e,if_pos hs,hs] at h;cases h
  ·rw[if_neg hs] at e
   rw[e] at h ⊢
   rw[←sQ k (dn f s) h]
   show (if s.ended=true then s else ic f (k+1) (dn f s))=_
   rw[if_neg hs]
theorem FI {l:List Bool} {v:Int} (h1:v<l.length) (_:0≤v):l[v.toNat]?=some (gb l v):=by
 unfold gb;rw[qt (by omega)];rfl
set_option maxHeartbeats 4000000 in
theorem B3 (f:ac) (i:zJ) (n:Nat) (hR:b5 f) (hs:small f) (hri:fO f i=0) (hi64:Bq i) (hi:bn f (rL f i)) (ha:i.args.length≤f.vars.length) (hn:n≤1000000) :
  aM prog E 17 [.agg (bE f),.agg (sO i),.int .i64 n,.fro 1 ((Ed f).map cX)] (.bool true):=by
 have hls:=hi.ls
 have hlr:=hi.lr
 have hv:=hs.1
 have hnb:=hR.nblk
 have hdl:(Ed f).length=f.blocks.length:=by unfold Ed;rw[w1,bS]
 refine zp func17 Z (by decide) Z<|ai<|ya (cs:=_) Z Z Z<|ya (cs:=_) Z Z Z<|ab Z<|z6<|zd<|ai<|be Z<|aq wy Z<|au jg Z Z8 Z Z<|aI Zg Z<|aq ju Z<|aO Z Z<|z6<|yg Z (by rw[hdl];simp)<|zi<|ai<|ae jv jj Z Z<|ae isAgg38 sizeOf38 Z Z<|zu Z (zj (.rest _)) (wo f i hv ha hls hlr) ?_
 rintro r21 O21 ⟨iw,ja,jb,jc,jo,jt,ids,hids,rfl,rfl⟩
 refine za (fU Z)<|z6<|zd<|ai<|ao Z<|z6<|zm<|y8 (γ:=Nat × GS × Nat × Nat × List Nat) [2,3,4,9] (fun g=>[(10,.int .i64 g.1)]) (fun g=>wO f iw ja jb jc g.2.2.1 g.2.2.2.1 g.2.2.2.2 g.2.1) (fun g=>g.1≤n∧g.2.1=ic f g.1 (rL f i)∧bn f g.2.1∧g.2.1.st≤g.1∧(∀q,g.2.1.ck q≤g.1)∧g.2.2.2.2.length=g.2.1.arrays.length) (fun g=>n - g.1) (0,rL f i,jo,jt,ids) aK aH (⟨qw _,Z,hi,qw _,fun _=>qw _,hids⟩) ?_
 rintro ⟨k,s,jo,jt,ids⟩ ⟨hk,hrun,hg,hst,hck,hids⟩
 try dsimp only at *
 refine zd<|ai<|aa Z<|aa Z<|ay Z Z<|aj Z<|zq (s:=25) Z (fun ck=>?_) (fun ck=>?_)
 ·have hk2:k<n:=by simp at ck;omega
  refine z8 Z Z ck<|aJ Z<|z8 Z Z ck<|ap Z<|z8 Z Z ck<|za (zf j8 Z Z6 (by decide) Z Z)<|z8 Z Z ck<|za (zo (c:=.bool _) Ym Z ⟨_,.head⟩ Z)<|z8 Z Z ck<|aC Z<|aw Z ck Z<|z6<|zy Z (fun ce=>?_) (fun ce=>?_)
  ·have he:s.ended=false:=by simpa using ce
   have hW:gx f s:=by rw[hrun];exact DB hR (k7 hR.hS) (rl hR.hS) hri hi64 k (by rw[←hrun];exact he)
   obtain ⟨b,hb⟩:∃b:Nat,s.blk=(b:Int):=⟨s.blk.toNat,by have:=hg.b0;omega⟩
   have hbl:b<f.blocks.length:=by have:=hg.b1;omega
   obtain ⟨B,hB⟩:∃B,f.blocks[b]?=some B:=⟨_,qt hbl⟩
   have hBm:=w4 hB
   have hbg:bT f s.blk=B:=by rw[hb];exact dQ hB
   refine zi<|zd<|zm<|zd<|zr (fun j=>Nat.beq j 9) (by kernel_rfl) Z (zj (.r (.rest _)))<|ad 0 Z (bK jg Z Z8 Z Z)<|ad 1 Z (e9 Zg Z)<|ad 2 Z (cJ Z)<|ad 3 Z (zw Z)<|ad 4 Z (zf j8 Z wz (by decide) Z Z)<|ad 5 Z (zo (c:=.int _ _) j6 Z ⟨_,.head⟩ Z)<|ad 6 Z (bv b ju jx Z Z hb hB)<|ad 7 Z (yw Yo jx Z Z)<|aQ 8 Z<|y7 (cs:=[.str ⟨#[]⟩,.raw (.slice none 0 0),.raw (.slice none 0 0),.int .i64 0,.int .i64 0,.int .i64 0,.int .i64 0]) Zl Z Z<|fun i11=>z6<|yf<|yh (i:=9) Z (by kernel_rfl) (by kernel_rfl)<|y1 jx Z Z Z Z Z Z .t1 Z<|z6<|ym (by kernel_rfl)<|zz (yd (t:=11) Z .t1)<|zd<|zd<|ye (γ:=Bool) [2,3,4,9,10,11] (fun u=>[(55,.bool u)]) (fun u=>wO f iw ja jb jc jo jt ids s) (fun u=>u=decide (s.pc=B.insts.length∧B.term.kind=1)) ?_ (fun _ _ h=>h) ?_
   ·refine zr (fun j=>false) (by kernel_rfl) Z (zj (.r (.rest _)))<|ad 0 Z (cJ Z)<|ad 1 Z (zw Z)<|ad 2 Z (zf j8 Z wz (by decide) Z Z)<|ad 3 Z (zo (c:=.int _ _) j6 Z ⟨_,.head⟩ Z)<|ad 4 Z (bK ji Z Zt Z Z)<|ad 5 Z (e9 Y9 Z)<|ad 6 Z (Gv.lenM Z0 Z)<|ad 7 Z (Gv.eqlI Z Z)<|ad 8 Z (m5 Z)<|qj (s:=50) Z (fun c1=>?_) (fun c1=>?_)
    ·refine cG 9 Z Z Z c1 (bK ji Z Zo Z Z)<|cG 10 Z Z Z c1 (bK je Z Y0 Z Z)<|cG 11 Z Z Z c1 (cQ Ye Z)<|cG 12 Z Z Z c1 (Gv.eqlI Z Z)<|ad 13 Z (sX Z c1 Z)<|bI ?_
     exact ⟨_,(by repeat (first|with_reducible exact y5 _ _|refine yn rfl ?_|exact yI)),aK,aH,by clear hW hg;simp_all<;>omega⟩
    ·refine bX 9 Z Z Z c1<|bX 10 Z Z Z c1<|bX 11 Z Z Z c1<|bX 12 Z Z Z c1<|ad 13 Z (rz Z c1 Z)<|bI ?_
     exact ⟨_,(by repeat (first|with_reducible exact y5 _ _|refine yn rfl ?_|exact yI)),aK,aH,by clear hW hg;simp_all<;>omega⟩
   ·rintro u hu
    refine ye (γ:=Unit) [2,3,4,9,10] (fun z=>[]) (fun z=>wO f iw ja jb jc jo jt ids s) (fun z=>True) ?_ (fun _ _ h=>h) ?_
    ·refine zy Z (fun cu=>?_) (fun cu=>?_)
     ·have hc:s.pc=B.insts.length∧B.term.kind=1:=wd (hu▸cu)
      have hd:=DC hR hW (by rw[hbg];exact hc.1.symm) (by rw[hbg];exact hc.2)
      rw[hbg] at hd
      have hvk:bc f B.term.var=true:=by
       have h1:=(hR.run.term _ hBm)
       unfold bC at h1
       rw[if_neg (by omega),if_pos hc.2] at h1
       simp only[wa] at h1
       exact h1.1.1
      have hvr:=eG hvk
      have hbl2:=hg.lb
      refine zd<|zr (fun j=>false) (by kernel_rfl) Z (zj (.r (.l (.r (.rest _)))))<|ad 0 Z (cJ Z)<|ad 1 Z (zw Z)<|ad 2 Z (zf j8 Z X3 (by decide) Z Z)<|ad 3 Z (zo (c:=.own _ _) Xf Z ⟨_,.head⟩ Z)<|ad 4 Z (bK ji Z Zo Z Z)<|ad 5 Z (bK je Z wz Z Z)<|ad 6 Z (cQ j6 Z)<|ad 7 Z (yi (j:=B.term.var.toNat) jk Z6 Z Z (by omega) ⟨_,.t1⟩ ((aN _).trans hg.lb) (by omega))<|ad 8 Z (Gv.loadB (j:=B.term.var.toNat) Ym Z ⟨_,.t1⟩ (FI (by omega) hvr.2))<|ad 9 Z (ms Z)<|bI<|zz (zb (zc .t6))<|zz (zb (zc .t6))<|zz (zb (zc .t6))<|zz (zb (zc .t6))<|zz (zb (zc .t5))<|zz (zb (zc .t6))<|zz (zb (zc .t6)) ?_
      rw[hb] at hd
      refine zd<|ye (γ:=Bool) [2,3,4,9,10] (fun w=>[(89,.bool w)]) (fun w=>wO f iw ja jb jc jo jt ids s) (fun w=>w=false) ?_ (fun _ _ h=>h) ?_
      ·refine aW<|aj Z<|aj Z<|zq (s:=66) Z (fun c2=>?_) (fun c2=>?_)
       ·refine z8 Z Z c2<|be Z<|z8 Z Z c2<|aJ Z<|z8 Z Z c2<|ap Z<|z8 Z Z c2<|za (zf j8 Z wz (by decide) Z Z)<|z8 Z Z c2<|za (zo (c:=.int _ _) j6 Z ⟨_,.head⟩ Z)<|z8 Z Z c2<|za (bv b wy wz Z Z hb (ud hbl))<|z8 Z Z c2<|aA j6 Z<|z8 Z Z c2<|ak Z Z<|aw Z c2 Z<|aj Z<|zq (s:=76) Z (fun c3=>?_) (fun c3=>?_)
        ·refine z7 Z Z c3<|z7 Z Z c3<|z7 Z Z c3<|zk Z Z<|zk Z Z<|zk Z Z<|zk Z Z<|zk Z Z<|zk Z Z<|zk Z Z<|zk Z Z<|z7 Z Z c3<|aw Z c3 Z<|z6 ?_
         exact ⟨_,(by repeat (first|with_reducible exact y5 _ _|refine yn rfl ?_|exact nJ)),aK,aH,by clear hW hg;cases hgb:gb s.bools B.term.var<;>simp_all⟩
        ·refine z8 Z Z c3<|aj Z<|z8 Z Z c3<|aC Z<|z8 Z Z c3<|aj Z<|zq (s:=79) Z (fun c4=>?_) (fun c4=>?_)
         ·refine z8 Z Z c4<|be Z<|z8 Z Z c4<|aJ Z<|z8 Z Z c4<|ap Z<|z8 Z Z c4<|za (zf j8 Z wz (by decide) Z Z)<|z8 Z Z c4<|za (zo (c:=.int _ _) j6 Z ⟨_,.head⟩ Z)<|z8 Z Z c4<|za (bv b wy wz Z Z hb (ud hbl))<|z8 Z Z c4<|aA j6 Z<|z8 Z Z c4<|ak Z Z<|z8 Z Z c3<|aw Z c4 Z<|ax Z c3 Z<|z6 ?_
          exact ⟨_,(by repeat (first|with_reducible exact y5 _ _|refine yn rfl ?_|exact nJ)),aK,aH,by clear hW hg;cases hgb:gb s.bools B.term.var<;>simp_all⟩
         ·refine z7 Z Z c4<|z7 Z Z c4<|z7 Z Z c4<|z7 Z Z c4<|z7 Z Z c4<|z7 Z Z c4<|z7 Z Z c4<|z7 Z Z c4<|z8 Z Z c3<|ax Z c4 Z<|ax Z c3 Z<|z6 ?_
          exact ⟨_,(by repeat (first|with_reducible exact y5 _ _|refine yn rfl ?_|exact nJ)),aK,aH,by clear hW hg;cases hgb:gb s.bools B.term.var<;>simp_all⟩
       ·refine z7 Z Z c2<|z7 Z Z c2<|z7 Z Z c2<|z7 Z Z c2<|z7 Z Z c2<|z7 Z Z c2<|z7 Z Z c2<|z7 Z Z c2<|ax Z c2 Z<|aj Z<|z8 Z Z Z<|aj Z<|z8 Z Z Z<|aC Z<|z8 Z Z Z<|aj Z<|zq (s:=79) Z (fun c5=>?_) (fun c5=>?_)
        ·refine z8 Z Z c5<|be Z<|z8 Z Z c5<|aJ Z<|z8 Z Z c5<|ap Z<|z8 Z Z c5<|za (zf j8 Z wz (by decide) Z Z)<|z8 Z Z c5<|za (zo (c:=.int _ _) j6 Z ⟨_,.head⟩ Z)<|z8 Z Z c5<|za (bv b wy wz Z Z hb (ud hbl))<|z8 Z Z c5<|aA j6 Z<|z8 Z Z c5<|ak Z Z<|z8 Z Z Z<|aw Z c5 Z<|ax Z Z Z<|z6 ?_
         exact ⟨_,(by repeat (first|with_reducible exact y5 _ _|refine yn rfl ?_|exact nJ)),aK,aH,by clear hW hg;cases hgb:gb s.bools B.term.var<;>simp_all⟩
        ·refine z7 Z Z c5<|z7 Z Z c5<|z7 Z Z c5<|z7 Z Z c5<|z7 Z Z c5<|z7 Z Z c5<|z7 Z Z c5<|z7 Z Z c5<|z8 Z Z Z<|ax Z c5 Z<|ax Z Z Z<|z6 ?_
         exact ⟨_,(by repeat (first|with_reducible exact y5 _ _|refine yn rfl ?_|exact nJ)),aK,aH,by clear hW hg;cases hgb:gb s.bools B.term.var<;>simp_all⟩
      ·rintro w hw2
       subst hw2
       refine yg Z Z<|zi ?_
       exact ⟨(),(by repeat (first|with_reducible exact y5 _ _|refine yn rfl ?_|exact nJ)),trivial,aH,trivial⟩
     ·refine zi ?_
      exact ⟨(),(by repeat (first|with_reducible exact y5 _ _|refine yn rfl ?_|exact nJ)),trivial,aH,trivial⟩
    ·rintro z _
     refine aW<|aJ Z<|zu Z (zj (.l (.l (.l (.l (.l (.l (.l (.rest _))))))))) (yA f iw ja jb jc jo jt ids s hids hg hR.run hv hs (by omega) (fun q=>by have:=hck q;omega)) ?_
     rintro r91 O91 ⟨jo',jt',ids',hl',rfl,rfl⟩
     refine z6<|aW<|aa Z<|aE Z Z<|ao Z<|z6 ?_
     exact ⟨(k+1,dn f s,jo',jt',ids'),gH,aK,aH,⟨hk2,by rw[hrun] at he ⊢;exact (sQ k _ he).symm,hg.step hR.run,by rw[EY];dsimp only;omega,fun q=>Nat.le_trans (EZ f s q) (by have:=hck q;dsimp only;omega),hl'⟩,by dsimp only;omega⟩
  ·refine y6<|ai<|ab Z<|z6<|zg<|zn (x:=.bool _) Z ?_
   rfl
 ·refine z7 Z Z ck<|z7 Z Z ck<|z7 Z Z ck<|z7 Z Z ck<|z7 Z Z ck<|ax Z ck Z<|z6<|yg Z Z<|y6<|ai<|ab Z<|z6<|zg<|zn (x:=.bool _) Z ?_
  rfl
theorem ue (f:ac) (hw:sr f) (h64:∀b∈f.blocks,∀x∈b.insts,bB x.num) (hL:bz E) (i:zJ) (hi64:Bq i) (hil:i.args.length≤9223372036854775807) (hil2:i.arrays.length≤9223372036854775807) (m:Int) (hm:0≤m∧m≤65535):aM prog E 6 [.agg (bE f),.agg (sO i),.int .u16 m] (.bool true):=by
 have hlv:=tX (E:=E) hL
 refine zp func6 Z (by decide) Z<|ai<|ya (cs:=_) Z Z Z<|ya (cs:=_) Z Z Z<|ab Z<|z6<|zd<|ai<|zh (hlv) Z<|aC Z<|aj Z<|z8 Z Z Z<|ae jv jj Z Z<|z8 Z Z Z<|zh (rQ f hw hL) Z<|z8 Z Z Z<|aC Z<|ax Z Z Z<|aj Z<|zq (s:=16) Z (fun c1=>?_) (fun c1=>?_)
 ·refine z7 Z Z c1<|z7 Z Z c1<|z7 Z Z c1<|aw Z c1 Z<|aj Z<|z7 Z Z Z<|z7 Z Z Z<|z7 Z Z Z<|z7 Z Z Z<|aw Z Z Z<|z6<|yt Z Z<|ai<|zh (hlv) Z<|ab Z<|z6<|zg<|zn (x:=.bool _) Z ?_
  rfl
 ·have hlp:ij f=true:=by cases h:ij f;rw[h] at c1;cases c1;rfl
  obtain ⟨hsm,ht,hs,hp⟩:=tW hlp
  have hS:=et ht
  have hR:=wi ht hs h64
  refine z8 Z Z c1<|ae isAgg38 sizeOf38 Z Z<|z8 Z Z c1<|zh (uc i hil hil2) Z<|z8 Z Z c1<|aC Z<|ax Z c1 Z<|aj Z<|zq (s:=21) Z (fun c2=>?_) (fun c2=>?_)
  ·refine z7 Z Z c2<|z7 Z Z c2<|z7 Z Z c2<|z7 Z Z c2<|aw Z c2 Z<|z6<|yt Z Z<|ai<|zh (hlv) Z<|ab Z<|z6<|zg<|zn (x:=.bool _) Z ?_
   rfl
  ·have hsi:iD i=true:=by cases h:iD i;rw[h] at c2;cases c2;rfl
   have hsi2:i.args.length≤20∧i.arrays.length≤40:=by unfold iD at hsi;simp only[wa,wg] at hsi;exact ⟨hsi.1,hsi.2.1⟩
   refine z8 Z Z c2<|ae jv jj Z Z<|z8 Z Z c2<|ae isAgg38 sizeOf38 Z Z<|z8 Z Z c2<|zh (wq f i (k7 hS) (by omega) (by omega)) Z<|z8 Z Z c2<|aO Z Z<|ax Z c2 Z<|z6<|zy Z (fun c3=>?_) (fun c3=>?_)
   ·refine ai<|zh (hlv) Z<|ab Z<|z6<|zg<|zn (x:=.bool _) Z ?_
    rfl
   ·have hri:fO f i=0:=by simpa using c3
    obtain ⟨hgi,hia⟩:=bn.beg hR.run (k7 hS) (rl hS) hri hi64
    obtain ⟨k,hk⟩:∃k:Nat,m.tmod 401=(k:Int):=⟨(m.tmod 401).toNat,by have:=Int.tmod_nonneg 401 hm.1;omega⟩
    have hk2:k≤400:=by have:=Int.tmod_lt_of_pos m (show (0:Int)<401 by decide);omega
    have hkw:IntKind.i64.wrap (m.tmod 401)=(k:Int):=by rw[hk];unfold IntKind.wrap;simp[IntKind.bits,IntKind.signed];omega
    have hN:=B3 (E:=E) f i k hR hsm hri hi64 hgi hia (by omega)
    rw[←hkw] at hN
    refine zi<|ai<|ae jv jj Z Z<|zh (rR f ⟨hsm,hL,hR,ht,hs⟩ hp) Z<|za (ke Z)<|za (q9 (v:=.fro _ _) Z Z)<|za (iN Z Z)<|za (nI Z)<|ao Z<|z6<|ai<|aa Z<|ak Z Z<|aj Z<|z8 Z Z Z<|ae jv jj Z Z<|z8 Z Z Z<|ae isAgg38 sizeOf38 Z Z<|z8 Z Z Z<|aa Z<|z8 Z Z Z<|za (Gv.rem Z Z (by decide))<|z8 Z Z Z<|za (qm underlying39 Zy Z)<|z8 Z Z Z<|be Z<|z8 Z Z Z<|zh (hN) Z<|aw Z Z Z<|ab Z<|z6<|zg<|zn (x:=.bool _) Z ?_
    rfl
end Go.Proofs.YtdilpodccjlkgaaGreatDoor
namespace Go.Proofs.YtdilpodccjlkgaaGreatDoor
open Go.Proofs.Tryz
open Go.Proofs Go.Lib Go.Shelf Go.RowKit Go.WideShapes
set_option maxRecDepth 20000
variable {W:World}
theorem B4:gV prog W 3 cX (fun x=>(Lit.int .i64 x).wf=true):=gV.int Zy
theorem Aj:gV prog W 23 (fun l:List Int=>[.fro 1 (l.map cX)]) wL:=fun en held fuel cs x h=>by
 obtain ⟨l,hl,r⟩:=gV.slice (k:=1) wy B4 (by kernel_rfl) (by decide) en held fuel cs x h
 exact ⟨l,hl.2,r⟩
theorem G5:gV prog W 61 gC (fun _=>True):=fun en held fuel cs x h=>by
 obtain ⟨xs,n,_,_,hl,hxl,hf⟩:=DataW.trod_struct Zm h
 have hl:cs.length=2:=hl.trans (by kernel_rfl)
 have hxl:xs.length=2:=hxl
 obtain ⟨a,_,ra⟩:=qk (o:=0) (k:=1) (hf 0 _ rfl) (gV.str Zr) (by omega) rfl (by kernel_rfl)
 obtain ⟨b,_,rb⟩:=qk (o:=1) (k:=1) (hf 1 _ rfl) (gV.int underlying59) (by omega) rfl (by kernel_rfl)
 exact ⟨⟨a,b⟩,trivial,q8 (o:=0) ra (q8 rb (RepL.fin hl))⟩
theorem G6:gV prog W 63 fe HE:=fun en held fuel cs x h=>by
 obtain ⟨xs,n,_,_,hl,hxl,hf⟩:=DataW.trod_struct jz h
 have hl:cs.length=3:=hl.trans (by kernel_rfl)
 have hxl:xs.length=3:=hxl
 obtain ⟨a,_,ra⟩:=qk (o:=0) (k:=1) (hf 0 _ rfl) B4 (by omega) rfl (by kernel_rfl)
 obtain ⟨b,hb,rb⟩:=qk (o:=1) (k:=1) (hf 1 _ rfl) Aj (by omega) rfl (by kernel_rfl)
 obtain ⟨c,hc,rc⟩:=qk (o:=2) (k:=1) (hf 2 _ rfl) Aj (by omega) rfl (by kernel_rfl)
 exact ⟨⟨a,b,c⟩,⟨hb,hc⟩,q8 (o:=0) ra (q8 rb (q8 rc (RepL.fin hl)))⟩
def H7 (x:aF):Prop:=wL x.args∧(Lit.int .i64 x.num).wf=true
theorem FJ:gV prog W 54 bH H7:=fun en held fuel cs x h=>by
 obtain ⟨xs,n,_,_,hl,hxl,hf⟩:=DataW.trod_struct j5 h
 have hl:cs.length=4:=hl.trans (by kernel_rfl)
 have hxl:xs.length=4:=hxl
 obtain ⟨a,_,ra⟩:=qk (o:=0) (k:=1) (hf 0 _ rfl) (gV.int underlying52) (by omega) rfl (by kernel_rfl)
 obtain ⟨b,_,rb⟩:=qk (o:=1) (k:=1) (hf 1 _ rfl) B4 (by omega) rfl (by kernel_rfl)
 obtain ⟨c,hc,rc⟩:=qk (o:=2) (k:=1) (hf 2 _ rfl) Aj (by omega) rfl (by kernel_rfl)
 obtain ⟨d,hd,rd⟩:=qk (o:=3) (k:=1) (hf 3 _ rfl) (gV.int Zs) (by omega) rfl (by kernel_rfl)
 exact ⟨⟨a,b,c,d⟩,⟨hc,hd⟩,q8 (o:=0) ra (q8 rb (q8 rc (q8 rd (RepL.fin hl))))⟩
theorem FK:gV prog W 49 oH (fun _=>True):=fun en held fuel cs x h=>by
 obtain ⟨xs,n,_,_,hl,hxl,hf⟩:=DataW.trod_struct je h
 have hl:cs.length=4:=hl.trans (by kernel_rfl)
 have hxl:xs.length=3:=hxl
 obtain ⟨a,_,ra⟩:=qk (o:=0) (k:=1) (hf 0 _ rfl) (gV.int underlying46) (by omega) rfl (by kernel_rfl)
 obtain ⟨b,_,rb⟩:=qk (o:=1) (k:=1) (hf 1 _ rfl) B4 (by omega) rfl (by kernel_rfl)
 obtain ⟨c,_,rc⟩:=qk (o:=2) (k:=2) (hf 2 _ rfl) (gV.pair (k:=1) Z1 B4 (by kernel_rfl) (by kernel_rfl)) (by omega) rfl (by kernel_rfl)
 exact ⟨⟨a,b,c.1,c.2⟩,trivial,q8 (o:=0) ra (q8 rb (q8 rc (RepL.fin hl)))⟩
def H8 (f:ac):Prop:=∀b∈f.blocks,∀x∈b.insts,bB x.num
def H9 (b:aX):Prop:=HF b∧∀x∈b.insts,-9223372036854775808≤x.num∧x.num≤9223372036854775807
theorem FL:gV prog W 51 dh H9:=fun en held fuel cs x h=>by
 obtain ⟨xs,n,_,_,hl,hxl,hf⟩:=DataW.trod_struct ji h
 have hl:cs.length=7:=hl.trans (by kernel_rfl)
 have hxl:xs.length=4:=hxl
 obtain ⟨a,_,ra⟩:=qk (o:=0) (k:=1) (hf 0 _ rfl) (gV.str Zr) (by omega) rfl (by kernel_rfl)
 obtain ⟨b,hb,rb⟩:=qk (o:=1) (k:=1) (hf 1 _ rfl) (gV.slice (k:=3) Z3 G6 (by kernel_rfl) (by decide)) (by omega) rfl (by kernel_rfl)
 obtain ⟨c,hc,rc⟩:=qk (o:=2) (k:=1) (hf 2 _ rfl) (gV.slice (k:=4) Z0 FJ (by kernel_rfl) (by decide)) (by omega) rfl (by kernel_rfl)
 obtain ⟨d,_,rd⟩:=qk (o:=3) (k:=4) (hf 3 _ rfl) FK (by omega) rfl (by kernel_rfl)
 exact ⟨⟨a,b,c,d⟩,⟨⟨hb.2,hc.2,hb.1,fun x hx=>(hc.1 x hx).1⟩,fun x hx=>by simpa [Lit.wf,IntKind.min,IntKind.max,IntKind.signed,IntKind.bits] using (hc.1 x hx).2⟩,q8 (o:=0) ra (q8 rb (q8 rc (q8 rd (RepL.fin hl))))⟩
theorem Ia:gV prog W 26 bE (fun f=>sr f∧H8 f):=fun en held fuel cs x h=>by
 obtain ⟨xs,n,_,_,hl,hxl,hf⟩:=DataW.trod_struct jg h
 have hl:cs.length=3:=hl.trans (by kernel_rfl)
 have hxl:xs.length=3:=hxl
 obtain ⟨a,ha,ra⟩:=qk (o:=0) (k:=1) (hf 0 _ rfl) (gV.slice (k:=2) Z9 G5 (by kernel_rfl) (by decide)) (by omega) rfl (by kernel_rfl)
 obtain ⟨b,hb,rb⟩:=qk (o:=1) (k:=1) (hf 1 _ rfl) Aj (by omega) rfl (by kernel_rfl)
 obtain ⟨c,hc,rc⟩:=qk (o:=2) (k:=1) (hf 2 _ rfl) (gV.slice (k:=7) ju FL (by kernel_rfl) (by decide)) (by omega) rfl (by kernel_rfl)
 exact ⟨⟨a,b,c⟩,⟨⟨ha.2,hb,hc.2,fun x hx=>(hc.1 x hx).1⟩,fun x hx=>(hc.1 x hx).2⟩,q8 (o:=0) ra (q8 rb (q8 rc (RepL.fin hl)))⟩
theorem sR {H:Type} {enc:TypeId × Value→H} {held:Bool} {α:Type} {T:TypeId} {e:α→List AV} {ok:α→Prop} {fs:Array Field} {base:Nat} {v:Value} {d:DataW H} {p:List MemPlace} (hd:gV prog W T e ok) (ht:prog.underlying T=some (.struct fs))
  (hv:Value.okWide prog W .any base T v) (h:DataW.Trod enc prog W 0 (fun _=>true) held T v d p):∃a,ok a∧bp (I0 W) (.agg (e a)) v:=by
 obtain ⟨cs,rfl,_⟩:=okWide_struct ht hv
 obtain ⟨fuel,h⟩:=h
 obtain ⟨a,h1,h2⟩:=hd enc held fuel _ _ h
 exact ⟨a,h1,cs.toList,by simp,h2⟩
theorem IM:RExtra prog Tryz.lays200_ren:=⟨by kernel_rfl,by kernel_rfl,by kernel_rfl,by kernel_rfl,by kernel_rfl,by kernel_rfl,by kernel_rfl,by kernel_rfl⟩
theorem yC (h:Lib.VarReads prog W "unicode.properties" (Lib.tabData .u8 Lib.propertiesTab)) (h2:Lib.VarReads prog W "unicode.Letter" (Lib.rtabData letterT)):bz W:=
 ⟨oX (g:=0) (by kernel_rfl) (by kernel_rfl) underlying285 underlying5 (by kernel_rfl) (by kernel_rfl) h,
  rvar_of_reads { Tryz.lays200 with } IM (name:="unicode.Letter") (g:=1) (by kernel_rfl) (by kernel_rfl) h2⟩
end Go.Proofs.YtdilpodccjlkgaaGreatDoor
namespace Go.Proofs.YtdilpodccjlkgaaGreatDoor
open Go.Proofs.Tryz
open Go.Proofs
theorem IO:prog.mayEnter=true:=by kernel_rfl
theorem Ib:(Rows.walkGoesRow.lifted == prog.liftsFinal)=true:=by kernel_rfl
theorem Ic:(prog.make == some Rows.walkGoesRow.make)=true:=by kernel_rfl
theorem Id:laidOutB prog=true:=by kernel_rfl
theorem IP:mapsRowed prog=true:=by kernel_rfl
theorem Ie:(prog.stops == [])=true:=by kernel_rfl
theorem Ig:(prog.stopKnobs == [])=true:=by kernel_rfl
theorem Ih:(Rows.walkGoesRow.plainKeys == prog.plainKeys)=true:=by kernel_rfl
theorem G7:prog.stopsHeard=true:=by kernel_rfl
theorem IX:(Rows.walkGoesRow.inPlace == prog.inPlace 6)=true:=by kernel_rfl
theorem IY:(Rows.walkGoesRow.unfollowed == prog.unfollowed 6)=true:=by kernel_rfl
theorem IQ:(Rows.walkGoesRow.recurses == prog.recurses 6)=true:=by kernel_rfl
theorem IR:(Rows.walkGoesRow.named == prog.varsNamed 6)=true:=by kernel_rfl
theorem closed:joinedFacts prog 6 Tryz.f6 Rows.walkGoesSpec Rows.walkGoesRow=true:=by
 unfold joinedFacts
 rw[Id,IP,Ie,Ig,IX,IY,IQ,IR,Ih,G7,IO,Ib,Ic]
 kernel_rfl
end Go.Proofs.YtdilpodccjlkgaaGreatDoor
namespace Go.Proofs.YtdilpodccjlkgaaGreatDoor
open Go.Proofs.Tryz
open Go.Proofs Go.Lib Go.Shelf Go.RowKit Go.WideShapes
set_option maxRecDepth 20000
variable {W:World}
theorem F5 {n:Int} (h:(Lit.int .i64 n).wf=true):bB n:=by simpa [bB,Lit.wf,IntKind.min,IntKind.max,IntKind.signed,IntKind.bits] using h
theorem G8:gV prog W 89 D4 (fun a=>bB a.int):=fun en held fuel cs x h=>by
 obtain ⟨xs,n,_,_,hl,hxl,hf⟩:=DataW.trod_struct Xl h
 have hl:cs.length=3:=hl.trans (by kernel_rfl)
 have hxl:xs.length=3:=hxl
 obtain ⟨a,ha,ra⟩:=qk (o:=0) (k:=1) (hf 0 _ rfl) (gV.int Zs) (by omega) rfl (by kernel_rfl)
 obtain ⟨b,_,rb⟩:=qk (o:=1) (k:=1) (hf 1 _ rfl) (gV.bool Y7) (by omega) rfl (by kernel_rfl)
 obtain ⟨c,_,rc⟩:=qk (o:=2) (k:=1) (hf 2 _ rfl) B4 (by omega) rfl (by kernel_rfl)
 exact ⟨⟨a,b,c⟩,F5 ha,q8 (o:=0) ra (q8 rb (q8 rc (RepL.fin hl)))⟩
theorem G9:gV prog W 87 D5 (fun r=>∀x∈r,bB x):=fun en held fuel cs x h=>by
 obtain ⟨l,hl,r⟩:=gV.slice (k:=1) jw (gV.int Zs) (by kernel_rfl) (by decide) en held fuel cs x h
 exact ⟨l,fun x hx=>F5 (hl.1 x hx),r⟩
theorem Ii:gV prog W 38 sO (fun i=>Bq i∧i.args.length≤9223372036854775807∧i.arrays.length≤9223372036854775807):=fun en held fuel cs x h=>by
 obtain ⟨xs,n,_,_,hl,hxl,hf⟩:=DataW.trod_struct Yk h
 have hl:cs.length=2:=hl.trans (by kernel_rfl)
 have hxl:xs.length=2:=hxl
 obtain ⟨a,ha,ra⟩:=qk (o:=0) (k:=1) (hf 0 _ rfl) (gV.slice (k:=3) Xa G8 (by kernel_rfl) (by decide)) (by omega) rfl (by kernel_rfl)
 obtain ⟨b,hb,rb⟩:=qk (o:=1) (k:=1) (hf 1 _ rfl) (gV.slice (k:=1) Zj G9 (by kernel_rfl) (by decide)) (by omega) rfl (by kernel_rfl)
 exact ⟨⟨a,b⟩,⟨⟨ha.1,hb.1⟩,ha.2,hb.2⟩,q8 (o:=0) ra (q8 rb (RepL.fin hl))⟩
end Go.Proofs.YtdilpodccjlkgaaGreatDoor
namespace Go.Proofs.YtdilpodccjlkgaaGreatDoor
open Go.Proofs.Tryz
open Go.Proofs Go.Lib Go.Shelf Go.RowKit Go.WideShapes
set_option maxRecDepth 20000
variable {W:World}
theorem Ha {H:Type} {enc:TypeId × Value→H} {held:Bool} {T:TypeId} {base:Nat} {v:Value} {d:DataW H} {p:List MemPlace} (ht:prog.underlying T=some (.int .u16))
  (hv:Value.okWide prog W .any base T v) (h:DataW.Trod enc prog W 0 (fun _=>true) held T v d p):∃n:Int,(0≤n∧n≤65535)∧v=.int .u16 n:=by
 obtain ⟨n,rfl⟩:=okWide_int ht hv
 obtain ⟨fuel,h⟩:=h
 obtain ⟨m,h1,h2⟩:=gV.int ht enc held fuel _ _ h
 obtain ⟨v,_,e,h2,h3⟩:=h2
 cases e
 cases h2
 exact ⟨n,by simpa [Lit.wf,IntKind.min,IntKind.max,IntKind.signed,IntKind.bits] using h1,rfl⟩
end Go.Proofs.YtdilpodccjlkgaaGreatDoor
