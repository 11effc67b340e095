/- An instruction of the document's machine. Of programs as they are run. -/
import Derived.Test.YtdilpodccjlkgaaGreatDoorZw
set_option linter.unusedVariables false
set_option linter.unusedSimpArgs false
set_option linter.unusedSectionVars false
namespace Go.Proofs.YtdilpodccjlkgaaGreatDoor
open Go.Proofs.Tryz
open Go.Proofs Go.Lib Go.Shelf Go.RowKit
theorem DY:da prog 36 87 1 1 [.raw (.slice none 0 0)]:=⟨_,Zj,Zu,zeroValue87,by decide,by decide,by kernel_rfl⟩
theorem G2:da prog 87 2 1 1 [.int .i64 0]:=⟨_,jw,Z5,zeroValue2,by decide,by decide,by kernel_rfl⟩
variable {E:World}
set_option maxRecDepth 20000
theorem cV {s:GS} {x:aF} (h:¬(18≤x.op∧x.op≤24)):ba s x=doG s x:=by unfold ba;rw[if_neg h]
theorem ub {l:List Bool} {v:Int} (h1:v<l.length) (_:0≤v):l[v.toNat]?=some (gb l v):=by
 unfold gb;rw[qt (by omega)];rfl
theorem DZ {α:Type}:∀{l:List α} {j:Nat} {a:α},l[j]?=some a→l.set j a=l
 |[],_,_,h=>by simp at h
 |_::_,0,_,h=>by simp at h;subst h;rfl
 |_::l,j+1,a,h=>by rw[List.set_cons_succ,DZ (l:=l) (by simpa using h)]
theorem wl:∀{ids:List Nat} {rs:List (List Int)} {j:Nat} {r r':List Int},rs[j]?=some r→r'.length=r.length→ik ids (rs.set j r')=ik ids rs
 |[],_,_,_,_,_,_=>rfl
 |_::_,[],_,_,_,h,_=>by simp at h
 |i::ids,r0::rs,0,r,r',h,hl=>by
  simp at h
  subst h
  show AV.own i r'.length::_=AV.own i r0.length::_
  rw[hl]
 |i::ids,r0::rs,j+1,r,r',h,hl=>by
  show AV.own i r0.length::ik ids (rs.set j r')=AV.own i r0.length::ik ids rs
  rw[wl (by simpa using h) hl]
theorem sN {ids:List Nat} {rs:List (List Int)} (i:Nat) (r:List Int) (h:ids.length=rs.length):ik ids rs++[AV.own i r.length]=ik (ids++[i]) (rs++[r]):=by
 unfold ik;rw[List.zipWith_append h];rfl
theorem wm {ids:List Nat} {rs:List (List Int)} (i:Nat) (r:List Int) (h:ids.length=rs.length):(FA i r::rm ids rs).Perm (rm (ids++[i]) (rs++[r])):=by
 unfold rm;rw[List.zipWith_append h];exact List.perm_append_comm (l₁:=[_])
theorem G3 (f:ac) (iw ja jb jc jo jt:Nat) {ids:List Nat} {s:GS} (h:ids.length=s.arrays.length) (i m:Nat) (d v:Int) (hv:v=s.arrays.length):(iw,bA.cells 99 (bE f++[.own ja f.vars.length,.own jb f.vars.length,.own jc f.vars.length,.own jo (s.arrays.length+1),.int .i64 s.blk,.int .i64 s.pc,.int .i64 s.en,.int .i64 s.val,.int .i64 s.tr,.own jt s.trace.length,.int .i64 s.st,.int .i64 (s.ck 0),.int .i64 (s.ck 1),.int .i64 (s.ck 2),.int .i64 (s.ck 3),.int .i64 (s.ck 4),.int .i64 (s.ck 5),.int .i64 (s.ck 6),.int .i64 (s.ck 7),.bool s.ended]))::(ja,.grow 1 2 (cI s.ints))::(jb,.grow 1 4 (cB s.bools))::(jc,.grow 1 3 (cI (s.arrs.set d.toNat v)))::(jo,.grow 1 87 (ik ids s.arrays++[.own i m]))::(jt,.grow 1 2 (cI s.trace))::[(0,Fz (rm (ids++[i]) (s.arrays++[List.replicate m 0])))]=wO f iw ja jb jc jo jt (ids++[i]) (stA { s with arrays:=s.arrays++[List.replicate m 0] } d s.arrays.length):=by
 subst hv
 unfold wO wR FB stA
 rw[←sN i (List.replicate m 0) h]
 simp only[qz,List.length_singleton,List.length_replicate]
theorem G4 (f:ac) (iw ja jb jc jo jt:Nat) {ids:List Nat} {s:GS} (a:Int):(iw,bA.cells 99 (bE f++[.own ja f.vars.length,.own jb f.vars.length,.own jc f.vars.length,.own jo s.arrays.length,.int .i64 s.blk,.int .i64 s.pc,.int .i64 s.en,.int .i64 s.val,.int .i64 s.tr,.own jt (s.trace.length+1),.int .i64 s.st,.int .i64 (s.ck 0),.int .i64 (s.ck 1),.int .i64 (s.ck 2),.int .i64 (s.ck 3),.int .i64 (s.ck 4),.int .i64 (s.ck 5),.int .i64 (s.ck 6),.int .i64 (s.ck 7),.bool s.ended]))::(ja,.grow 1 2 (cI s.ints))::(jb,.grow 1 4 (cB s.bools))::(jc,.grow 1 3 (cI s.arrs))::(jo,.grow 1 87 (ik ids s.arrays))::(jt,.grow 1 2 (cI s.trace++[.int .i64 a]))::[(0,Fz (rm ids s.arrays))]=wO f iw ja jb jc jo jt ids { s with trace:=s.trace++[a] }:=by
 unfold wO wR FB
 rw[show cI s.trace++[AV.int .i64 a]=cI (s.trace++[a]) from oZ s.trace [a]]
 simp only[qz,List.length_singleton]
set_option maxHeartbeats 16000000 in
theorem x9 (f:ac) (iw ja jb jc jo jt:Nat) (ids:List Nat) (s:GS) (x:aF) (hids:ids.length=s.arrays.length) (hg:bn f s) (hx:bM f x) (hv:f.vars.length≤1000) (hck:∀i,s.ck i≤1000000000):aY prog E 52 [.po iw 0,.agg (bH x)] (wO f iw ja jb jc jo jt ids s) (fun y O=>∃jo' jt' ids',ids'.length=(ba s x).arrays.length∧y=.tup []∧O=wO f iw ja jb jc jo' jt' ids' (ba s x)):=by
 have hop:=hx.op
 have hl1:=hg.li
 have hl2:=hg.lb
 have hl3:=hg.la
 have hargc:=hx.argc
 obtain ⟨t,ht⟩:∃t,(if 18≤x.op∧x.op≤24 then x.op - 17 else 0)=t:=⟨_,rfl⟩
 have hchk:=wk (E:=E) x.op hop
 rw[ht] at hchk
 refine zp func52 Z (by decide) Z<|ai<|ya (cs:=_) Z Z Z<|z6<|zd<|zr (fun j=>false) (by kernel_rfl) Z (zj (.rest _))<|ad 1 Z (bK j5 Z Z2 Z Z)<|ad 2 Z (cQ Z4 Z)<|aQ 0 Z<|zh (iR) Z<|z6<|ad 3 Z (bv x.op.toNat Xd Ys Z Z (by omega) (re hop))<|ad 4 Z (bK Y3 Z Y8 Z Z)<|ad 5 Z (yx (c:=.str _) Yh Z)<|ad 6 Z (qi (v:=.str _) Z)<|bI<|zd<|ai<|au j5 Z Z2 Z Z<|aA Z4 Z<|zh (hchk) Z<|ao Z<|z6<|ai<|aa Z<|aZ Z Z<|z6<|zt Z (fun c=>?_) (fun c=>?_)
 ·have hc:18≤x.op∧x.op≤24:=by
   refine Classical.byContradiction fun hn=>?_
   rw[if_neg hn] at ht;omega
  rw[if_pos hc] at ht
  refine zd<|ye (γ:=Nat) [0,3,4,5] (fun g=>[]) (fun g=>wO f iw ja jb jc jo jt ids (lL s g)) (fun g=>(g:Int)=t) ?_ (fun _ _ h=>h) ?_
  ·have ht7:t=1∨t=2∨t=3∨t=4∨t=5∨t=6∨t=7:=by omega
   rcases ht7 with h7|h7|h7|h7|h7|h7|h7
   ·have hb:=hck 1
    refine zr (fun j=>Nat.beq j 12) (by kernel_rfl) Z (zj (.rest _))<|ad 0 Z (cJ Z)<|ad 1 Z (cD Z)<|ad 2 Z (zw Z)<|ad 3 Z (zf j8 Z Y6 (by decide) Z Z)<|ad 4 Z (zf Ze Z Yz (by decide) Z Z)<|ad 5 Z (qh (j:=1) Y4 wz Z Z h7 (by decide) Z)<|yp (i:=8) Z (by kernel_rfl) (by kernel_rfl) (by kernel_rfl) (by kernel_rfl) (zw Z)<|yp (i:=9) Z (by kernel_rfl) (by kernel_rfl) (by kernel_rfl) (by kernel_rfl) (zf j8 Z Y6 (by decide) Z Z)<|yp (i:=10) Z (by kernel_rfl) (by kernel_rfl) (by kernel_rfl) (by kernel_rfl) (zf Ze Z Yz (by decide) Z Z)<|aQ 6 Z<|za (zo (c:=.int _ _) j6 Z ⟨_,.head⟩ Z)<|z6<|ad 7 Z (wG Z Z)<|ad 11 Z (qh (j:=1) Y4 wz Z Z h7 (by decide) Z)<|yf<|yh (i:=12) Z (by kernel_rfl) (by kernel_rfl)<|yq (l:=[_]) (new:=[_,_,_,_,_,_,_,_,_,_,_,_,_,_,_,_,_,_,_,_,_,_,_]) wz Z Z Z Z Z Z .head Z Z<|z6<|ym (by kernel_rfl) ?_
    exact ⟨1,gH,trivial,aH,by rw[h7];rfl⟩
   ·have hb:=hck 2
    refine zr (fun j=>Nat.beq j 12) (by kernel_rfl) Z (zj (.rest _))<|ad 0 Z (cJ Z)<|ad 1 Z (cD Z)<|ad 2 Z (zw Z)<|ad 3 Z (zf j8 Z Y6 (by decide) Z Z)<|ad 4 Z (zf Ze Z Yz (by decide) Z Z)<|ad 5 Z (qh (j:=2) Y4 wz Z Z h7 (by decide) Z)<|yp (i:=8) Z (by kernel_rfl) (by kernel_rfl) (by kernel_rfl) (by kernel_rfl) (zw Z)<|yp (i:=9) Z (by kernel_rfl) (by kernel_rfl) (by kernel_rfl) (by kernel_rfl) (zf j8 Z Y6 (by decide) Z Z)<|yp (i:=10) Z (by kernel_rfl) (by kernel_rfl) (by kernel_rfl) (by kernel_rfl) (zf Ze Z Yz (by decide) Z Z)<|aQ 6 Z<|za (zo (c:=.int _ _) j6 Z ⟨_,.head⟩ Z)<|z6<|ad 7 Z (wG Z Z)<|ad 11 Z (qh (j:=2) Y4 wz Z Z h7 (by decide) Z)<|yf<|yh (i:=12) Z (by kernel_rfl) (by kernel_rfl)<|yq (l:=[_]) (new:=[_,_,_,_,_,_,_,_,_,_,_,_,_,_,_,_,_,_,_,_,_,_,_]) wz Z Z Z Z Z Z .head Z Z<|z6<|ym (by kernel_rfl) ?_
    exact ⟨2,gH,trivial,aH,by rw[h7];rfl⟩
   ·have hb:=hck 3
    refine zr (fun j=>Nat.beq j 12) (by kernel_rfl) Z (zj (.rest _))<|ad 0 Z (cJ Z)<|ad 1 Z (cD Z)<|ad 2 Z (zw Z)<|ad 3 Z (zf j8 Z Y6 (by decide) Z Z)<|ad 4 Z (zf Ze Z Yz (by decide) Z Z)<|ad 5 Z (qh (j:=3) Y4 wz Z Z h7 (by decide) Z)<|yp (i:=8) Z (by kernel_rfl) (by kernel_rfl) (by kernel_rfl) (by kernel_rfl) (zw Z)<|yp (i:=9) Z (by kernel_rfl) (by kernel_rfl) (by kernel_rfl) (by kernel_rfl) (zf j8 Z Y6 (by decide) Z Z)<|yp (i:=10) Z (by kernel_rfl) (by kernel_rfl) (by kernel_rfl) (by kernel_rfl) (zf Ze Z Yz (by decide) Z Z)<|aQ 6 Z<|za (zo (c:=.int _ _) j6 Z ⟨_,.head⟩ Z)<|z6<|ad 7 Z (wG Z Z)<|ad 11 Z (qh (j:=3) Y4 wz Z Z h7 (by decide) Z)<|yf<|yh (i:=12) Z (by kernel_rfl) (by kernel_rfl)<|yq (l:=[_]) (new:=[_,_,_,_,_,_,_,_,_,_,_,_,_,_,_,_,_,_,_,_,_,_,_]) wz Z Z Z Z Z Z .head Z Z<|z6<|ym (by kernel_rfl) ?_
    exact ⟨3,gH,trivial,aH,by rw[h7];rfl⟩
   ·have hb:=hck 4
    refine zr (fun j=>Nat.beq j 12) (by kernel_rfl) Z (zj (.rest _))<|ad 0 Z (cJ Z)<|ad 1 Z (cD Z)<|ad 2 Z (zw Z)<|ad 3 Z (zf j8 Z Y6 (by decide) Z Z)<|ad 4 Z (zf Ze Z Yz (by decide) Z Z)<|ad 5 Z (qh (j:=4) Y4 wz Z Z h7 (by decide) Z)<|yp (i:=8) Z (by kernel_rfl) (by kernel_rfl) (by kernel_rfl) (by kernel_rfl) (zw Z)<|yp (i:=9) Z (by kernel_rfl) (by kernel_rfl) (by kernel_rfl) (by kernel_rfl) (zf j8 Z Y6 (by decide) Z Z)<|yp (i:=10) Z (by kernel_rfl) (by kernel_rfl) (by kernel_rfl) (by kernel_rfl) (zf Ze Z Yz (by decide) Z Z)<|aQ 6 Z<|za (zo (c:=.int _ _) j6 Z ⟨_,.head⟩ Z)<|z6<|ad 7 Z (wG Z Z)<|ad 11 Z (qh (j:=4) Y4 wz Z Z h7 (by decide) Z)<|yf<|yh (i:=12) Z (by kernel_rfl) (by kernel_rfl)<|yq (l:=[_]) (new:=[_,_,_,_,_,_,_,_,_,_,_,_,_,_,_,_,_,_,_,_,_,_,_]) wz Z Z Z Z Z Z .head Z Z<|z6<|ym (by kernel_rfl) ?_
    exact ⟨4,gH,trivial,aH,by rw[h7];rfl⟩
   ·have hb:=hck 5
    refine zr (fun j=>Nat.beq j 12) (by kernel_rfl) Z (zj (.rest _))<|ad 0 Z (cJ Z)<|ad 1 Z (cD Z)<|ad 2 Z (zw Z)<|ad 3 Z (zf j8 Z Y6 (by decide) Z Z)<|ad 4 Z (zf Ze Z Yz (by decide) Z Z)<|ad 5 Z (qh (j:=5) Y4 wz Z Z h7 (by decide) Z)<|yp (i:=8) Z (by kernel_rfl) (by kernel_rfl) (by kernel_rfl) (by kernel_rfl) (zw Z)<|yp (i:=9) Z (by kernel_rfl) (by kernel_rfl) (by kernel_rfl) (by kernel_rfl) (zf j8 Z Y6 (by decide) Z Z)<|yp (i:=10) Z (by kernel_rfl) (by kernel_rfl) (by kernel_rfl) (by kernel_rfl) (zf Ze Z Yz (by decide) Z Z)<|aQ 6 Z<|za (zo (c:=.int _ _) j6 Z ⟨_,.head⟩ Z)<|z6<|ad 7 Z (wG Z Z)<|ad 11 Z (qh (j:=5) Y4 wz Z Z h7 (by decide) Z)<|yf<|yh (i:=12) Z (by kernel_rfl) (by kernel_rfl)<|yq (l:=[_]) (new:=[_,_,_,_,_,_,_,_,_,_,_,_,_,_,_,_,_,_,_,_,_,_,_]) wz Z Z Z Z Z Z .head Z Z<|z6<|ym (by kernel_rfl) ?_
    exact ⟨5,gH,trivial,aH,by rw[h7];rfl⟩
   ·have hb:=hck 6
    refine zr (fun j=>Nat.beq j 12) (by kernel_rfl) Z (zj (.rest _))<|ad 0 Z (cJ Z)<|ad 1 Z (cD Z)<|ad 2 Z (zw Z)<|ad 3 Z (zf j8 Z Y6 (by decide) Z Z)<|ad 4 Z (zf Ze Z Yz (by decide) Z Z)<|ad 5 Z (qh (j:=6) Y4 wz Z Z h7 (by decide) Z)<|yp (i:=8) Z (by kernel_rfl) (by kernel_rfl) (by kernel_rfl) (by kernel_rfl) (zw Z)<|yp (i:=9) Z (by kernel_rfl) (by kernel_rfl) (by kernel_rfl) (by kernel_rfl) (zf j8 Z Y6 (by decide) Z Z)<|yp (i:=10) Z (by kernel_rfl) (by kernel_rfl) (by kernel_rfl) (by kernel_rfl) (zf Ze Z Yz (by decide) Z Z)<|aQ 6 Z<|za (zo (c:=.int _ _) j6 Z ⟨_,.head⟩ Z)<|z6<|ad 7 Z (wG Z Z)<|ad 11 Z (qh (j:=6) Y4 wz Z Z h7 (by decide) Z)<|yf<|yh (i:=12) Z (by kernel_rfl) (by kernel_rfl)<|yq (l:=[_]) (new:=[_,_,_,_,_,_,_,_,_,_,_,_,_,_,_,_,_,_,_,_,_,_,_]) wz Z Z Z Z Z Z .head Z Z<|z6<|ym (by kernel_rfl) ?_
    exact ⟨6,gH,trivial,aH,by rw[h7];rfl⟩
   ·have hb:=hck 7
    refine zr (fun j=>Nat.beq j 12) (by kernel_rfl) Z (zj (.rest _))<|ad 0 Z (cJ Z)<|ad 1 Z (cD Z)<|ad 2 Z (zw Z)<|ad 3 Z (zf j8 Z Y6 (by decide) Z Z)<|ad 4 Z (zf Ze Z Yz (by decide) Z Z)<|ad 5 Z (qh (j:=7) Y4 wz Z Z h7 (by decide) Z)<|yp (i:=8) Z (by kernel_rfl) (by kernel_rfl) (by kernel_rfl) (by kernel_rfl) (zw Z)<|yp (i:=9) Z (by kernel_rfl) (by kernel_rfl) (by kernel_rfl) (by kernel_rfl) (zf j8 Z Y6 (by decide) Z Z)<|yp (i:=10) Z (by kernel_rfl) (by kernel_rfl) (by kernel_rfl) (by kernel_rfl) (zf Ze Z Yz (by decide) Z Z)<|aQ 6 Z<|za (zo (c:=.int _ _) j6 Z ⟨_,.head⟩ Z)<|z6<|ad 7 Z (wG Z Z)<|ad 11 Z (qh (j:=7) Y4 wz Z Z h7 (by decide) Z)<|yf<|yh (i:=12) Z (by kernel_rfl) (by kernel_rfl)<|yq (l:=[_]) (new:=[_,_,_,_,_,_,_,_,_,_,_,_,_,_,_,_,_,_,_,_,_,_,_]) wz Z Z Z Z Z Z .head Z Z<|z6<|ym (by kernel_rfl) ?_
    exact ⟨7,gH,trivial,aH,by rw[h7];rfl⟩
  ·rintro g hgt
   have hgn:(x.op - 17).toNat=g:=by omega
   have hal:0<x.args.length:=by
    obtain ⟨j,hj⟩:∃j:Nat,x.op=(j:Int):=⟨x.op.toNat,by omega⟩
    rw[hargc,hj,Int.toNat_natCast]
    have:j=18∨j=19∨j=20∨j=21∨j=22∨j=23∨j=24:=by omega
    rcases this with h|h|h|h|h|h|h<;>(rw[h];decide)
   have ho:x8 f x.op x.args:=⟨hc.1,hc.2,hal,fun v hv=>eG (hx.args v hv)⟩
   refine zd<|ai<|aJ Z<|za (yv (v:=.str _) Z)<|au j5 Z j7 Z Z<|aI jf Z<|zu Z (zj (.l (.l (.l (.l (.l (.l (.l (.rest _))))))))) (ua f iw ja jb jc jo jt ids (lL s g) x.op x.args hids (hg.bump g) ho) ?_
   rintro r42 O42 ⟨rfl,rfl⟩
   refine aC Z<|z6<|zy Z (fun cp=>?_) (fun cp=>?_)
   ·have hp:¬ee s x.op x.args=true:=fun h=>by have h2:ee (lL s g) x.op x.args=true:=h;rw[h2] at cp;cases cp
    have hI:ba s x=Da (lL s g) t:=by unfold ba;rw[if_pos hc,if_neg hp,hgn,ht]
    refine ai<|aJ Z<|aa Z<|ap Z<|za (zf j8 Z Y6 (by decide) Z Z)<|za (zf Ze Z sizeOf94 (by decide) Z Z)<|yq (l:=[_]) (new:=[_,_,_,_,_,_,_,_,_,_,_,_,_,_,_,_,_,_,_,_,_,_,_]) sizeOf94 Z Z Z Z Z Z .head Z Z<|z6<|aW<|aJ Z<|zu Z (zj (.l (.l (.l (.l (.l (.l (.l (.rest _))))))))) (eu f iw ja jb jc jo jt ids { lL s g with tr:=t } 1) ?_
    rintro r50 O50 ⟨rfl,rfl⟩
    refine z6<|zg<|yl ?_
    exact ⟨jo,jt,ids,by rw[hI];exact hids,rfl,by rw[hI];rfl⟩
   ·have hp:ee s x.op x.args=true:=by cases h:ee s x.op x.args;have h2:ee (lL s g) x.op x.args=false:=h;rw[h2] at cp;cases cp;rfl
    have hI:ba s x=lL s g:=by unfold ba;rw[if_pos hc,if_pos hp,hgn]
    refine zi<|zg<|yl ?_
    exact ⟨jo,jt,ids,by rw[hI];exact hids,rfl,by rw[hI];rfl⟩
 ·have hc:¬(18≤x.op∧x.op≤24):=fun h=>by rw[if_pos h] at ht;omega
  refine zi<|ai<|au j5 Z j7 Z Z<|aI jf Z<|za (nI Z)<|z6<|ai<|ao Z<|ao Z<|z6<|ai<|ab Z<|ab Z<|ao Z<|z6<|zd<|ai<|be Z<|aq wy Z<|aZ Z Z<|z6<|ye (γ:=Int × Bool × Int) [0,3,4,6,8,10] (fun u=>[(7,.int .i64 u.1),(9,.bool u.2.1),(11,.int .i64 u.2.2)]) (fun u=>wO f iw ja jb jc jo jt ids s) (fun u=>0<x.args.length→u=(aG s x,pG s x,rG s x)) ?_ (fun _ _ h=>h) ?_
  ·refine zt Z (fun ca=>?_) (fun ca=>?_)
   ·have ca:0<x.args.length:=by omega
    obtain ⟨q0,r0⟩:=hx.a0 ca
    refine zr (fun j=>false) (by kernel_rfl) Z (zj (.r (.r (.r (.r (.rest _))))))<|ad 0 Z (cJ Z)<|ad 1 Z (zw Z)<|ad 2 Z (zf j8 Z Zu (by decide) Z Z)<|ad 3 Z (zo (c:=.own _ _) Yf Z ⟨_,.head⟩ Z)<|ad 4 Z (wt Z)<|ad 5 Z (bv 0 wy wz Z Z Z (rS ca))<|ad 6 Z (cQ j6 Z)<|ad 7 Z (yi (j:=(bj x).toNat) jw Z5 Z Z (wc r0).symm ⟨_,.t1⟩ ((aD _).trans hl1) (by omega))<|ad 8 Z (yz (j:=(bj x).toNat) Zx Z ⟨_,.t1⟩ (gf (by omega) r0))<|ad 9 Z (cJ Z)<|ad 10 Z (zw Z)<|ad 11 Z (zf j8 Z X3 (by decide) Z Z)<|ad 12 Z (zo (c:=.own _ _) Xf Z ⟨_,.head⟩ Z)<|ad 13 Z (wt Z)<|ad 14 Z (bv 0 wy wz Z Z Z (rS ca))<|ad 15 Z (cQ j6 Z)<|ad 16 Z (yi (j:=(bj x).toNat) jk Z6 Z Z (wc r0).symm ⟨_,.t2⟩ ((aN _).trans hl2) (by omega))<|ad 17 Z (Gv.loadB (j:=(bj x).toNat) Ym Z ⟨_,.t2⟩ (ub (by omega) r0))<|ad 18 Z (cJ Z)<|ad 19 Z (zw Z)<|ad 20 Z (zf j8 Z j7 (by decide) Z Z)<|ad 21 Z (zo (c:=.own _ _) jf Z ⟨_,.head⟩ Z)<|ad 22 Z (wt Z)<|ad 23 Z (bv 0 wy wz Z Z Z (rS ca))<|ad 24 Z (cQ j6 Z)<|ad 25 Z (yi (j:=(bj x).toNat) wy wz Z Z (wc r0).symm ⟨_,.t3⟩ ((aD _).trans hl3) (by omega))<|ad 26 Z (yz (j:=(bj x).toNat) j6 Z ⟨_,.t3⟩ (gf (by omega) r0))<|ad 27 Z (mY Z)<|ad 28 Z (ms Z)<|ad 29 Z (mY Z)<|bI ?_
    exact ⟨(aG s x,pG s x,rG s x),yI,db,aH,fun _=>rfl⟩
   ·refine zi ?_
    exact ⟨(0,false,-1),yI,db,aH,fun h=>absurd h (by omega)⟩
  ·rintro ⟨a,p,r⟩ hu
   refine zd<|ai<|be Z<|aq wy Z<|aZ Z Z<|z6<|ye (γ:=Int × Bool) [0,3,4,6,7,9,11] (fun u=>[(8,.int .i64 u.1),(10,.bool u.2)]) (fun u=>wO f iw ja jb jc jo jt ids s) (fun u=>1<x.args.length→u=(bG s x,qG s x)) ?_ (fun _ _ h=>h) ?_
   ·refine zt Z (fun ca=>?_) (fun ca=>?_)
    ·have ca:1<x.args.length:=by omega
     obtain ⟨q0,r0⟩:=hx.a1 ca
     refine zr (fun j=>false) (by kernel_rfl) Z (zj (.r (.r (.r (.rest _)))))<|ad 0 Z (cJ Z)<|ad 1 Z (zw Z)<|ad 2 Z (zf j8 Z Zu (by decide) Z Z)<|ad 3 Z (zo (c:=.own _ _) Yf Z ⟨_,.head⟩ Z)<|ad 4 Z (wt Z)<|ad 5 Z (bv 1 wy wz Z Z Z (rS ca))<|ad 6 Z (cQ j6 Z)<|ad 7 Z (yi (j:=(b7 x).toNat) jw Z5 Z Z (wc r0).symm ⟨_,.t1⟩ ((aD _).trans hl1) (by omega))<|ad 8 Z (yz (j:=(b7 x).toNat) Zx Z ⟨_,.t1⟩ (gf (by omega) r0))<|ad 9 Z (cJ Z)<|ad 10 Z (zw Z)<|ad 11 Z (zf j8 Z X3 (by decide) Z Z)<|ad 12 Z (zo (c:=.own _ _) Xf Z ⟨_,.head⟩ Z)<|ad 13 Z (wt Z)<|ad 14 Z (bv 1 wy wz Z Z Z (rS ca))<|ad 15 Z (cQ j6 Z)<|ad 16 Z (yi (j:=(b7 x).toNat) jk Z6 Z Z (wc r0).symm ⟨_,.t2⟩ ((aN _).trans hl2) (by omega))<|ad 17 Z (Gv.loadB (j:=(b7 x).toNat) Ym Z ⟨_,.t2⟩ (ub (by omega) r0))<|ad 18 Z (mY Z)<|ad 19 Z (ms Z)<|bI ?_
     exact ⟨(bG s x,qG s x),lf,eo,aH,fun _=>rfl⟩
    ·refine zi ?_
     exact ⟨(0,false),lf,eo,aH,fun h=>absurd h (by omega)⟩
   ·rintro ⟨b,q⟩ hw
    refine ai<|au j5 Z wz Z Z<|aA j6 Z<|ao Z<|z6<|ai<|za (yv (v:=.str _) Z)<|z6<|zm<|ai<|za (q4 Z Z)<|ab Z<|z6<|zt Z (fun c0=>?_) (fun c0=>?_)
    ·have e:x.op=0:=(aT hop 0 (by decide) rfl).1 c0
     obtain ⟨d1,d0⟩:=hx.made (by rw[e];decide)
     have hI:ba s x=stI s x.dst x.num:=by rw[cV hc];unfold doG;simp[e]
     refine zr (fun j=>Nat.beq j 8) (by kernel_rfl) Z (zj (.r (.rest _)))<|ad 0 Z (cJ Z)<|ad 1 Z (zw Z)<|ad 2 Z (zf j8 Z Zu (by decide) Z Z)<|ad 3 Z (zo (c:=.own _ _) Yf Z ⟨_,.head⟩ Z)<|ad 4 Z (cD Z)<|ad 5 Z (bK j5 Z Z5 Z Z)<|ad 6 Z (cQ Zx Z)<|aQ 7 Z<|za (yi (j:=x.dst.toNat) jw Z5 Z Z (wc d0).symm ⟨_,.head⟩ ((aD _).trans hl1) (by omega))<|z6<|yf<|yh (i:=8) Z (by kernel_rfl) (by kernel_rfl)<|yy (j:=x.dst.toNat) Z5 Z Z .t1 (by first|omega|(simp;omega))<|z6<|ym (by kernel_rfl)<|yl ?_
     exact ⟨jo,jt,ids,by rw[hI];exact hids,rfl,by rw[hI];rfl⟩
    ·have n0:¬x.op=0:=fun e=>c0 ((aT hop 0 (by decide) rfl).2 e)
     refine zd<|ai<|za (q4 Z Z)<|ab Z<|z6<|ye (γ:=Bool) [0,3,4,6,7,8,9,10,11,12,106] (fun z=>[(117,.bool z)]) (fun z=>wO f iw ja jb jc jo jt ids s) (fun z=>z=decide (x.op=1∨x.op=25∨x.op=26)) ?_ (fun _ _ h=>h) ?_
     ·refine zt Z (fun c1=>?_) (fun c1=>?_)
      ·have e:x.op=1:=(aT hop 1 (by decide) rfl).1 c1
       refine zi ?_
       exact ⟨_,oY,aK,aH,by rw[w8 c1,e];rfl⟩
      ·have n1:¬x.op=1:=fun e=>c1 ((aT hop 1 (by decide) rfl).2 e)
       refine ai<|za (q4 Z Z)<|ab Z<|z6<|zt Z (fun c25=>?_) (fun c25=>?_)
       ·have e:x.op=25:=(aT hop 25 (by decide) rfl).1 c25
        refine zi ?_
        exact ⟨_,oY,aK,aH,by rw[w8 c25,e];rfl⟩
       ·have n25:¬x.op=25:=fun e=>c25 ((aT hop 25 (by decide) rfl).2 e)
        refine aW<|za (q4 Z Z)<|ab Z<|z6 ?_
        exact ⟨_,oY,aK,aH,by rw[decide_eq_decide];exact ⟨fun h=>.inr (.inr ((aT hop 26 (by decide) rfl).1 h)),fun h=>(aT hop 26 (by decide) rfl).2 ((h.resolve_left n1).resolve_left n25)⟩⟩
     ·rintro z hz
      refine zy Z (fun cz=>?_) (fun cz=>?_)
      ·have e:x.op=1∨x.op=25∨x.op=26:=wd (hz.symm.trans cz)
       obtain ⟨d1,d0⟩:=hx.made (by rcases e with e|e|e<;>(rw[e];decide))
       obtain ⟨rfl,rfl,rfl⟩:a=aG s x∧p=pG s x∧r=rG s x:=by have:=hu (by rcases e with e|e|e<;>(rw[hargc,e];decide));simpa using this
       have hI:ba s x=stA (stB (stI s x.dst (aG s x)) x.dst (pG s x)) x.dst (rG s x):=by rw[cV hc];unfold doG;rw[if_neg n0,if_pos e]
       refine dJ.regionDrawR (by kernel_rfl) Z (zj (.r (.l (.l (.l (.l (.l (.l (.rest _)))))))))<|yc (i:=0) Z (by kernel_rfl) (by kernel_rfl) (by kernel_rfl) (cJ Z)<|yc (i:=1) Z (by kernel_rfl) (by kernel_rfl) (by kernel_rfl) (zw Z)<|yc (i:=2) Z (by kernel_rfl) (by kernel_rfl) (by kernel_rfl) (zf j8 Z Zu (by decide) Z Z)<|yc (i:=3) Z (by kernel_rfl) (by kernel_rfl) (by kernel_rfl) (zo (c:=.own _ _) Yf Z ⟨_,.head⟩ Z)<|yc (i:=4) Z (by kernel_rfl) (by kernel_rfl) (by kernel_rfl) (cD Z)<|yc (i:=5) Z (by kernel_rfl) (by kernel_rfl) (by kernel_rfl) (cJ Z)<|yc (i:=6) Z (by kernel_rfl) (by kernel_rfl) (by kernel_rfl) (zw Z)<|yc (i:=7) Z (by kernel_rfl) (by kernel_rfl) (by kernel_rfl) (zf j8 Z X3 (by decide) Z Z)<|yc (i:=8) Z (by kernel_rfl) (by kernel_rfl) (by kernel_rfl) (zo (c:=.own _ _) Xf Z ⟨_,.head⟩ Z)<|yc (i:=9) Z (by kernel_rfl) (by kernel_rfl) (by kernel_rfl) (cD Z)<|yc (i:=10) Z (by kernel_rfl) (by kernel_rfl) (by kernel_rfl) (cJ Z)<|yc (i:=11) Z (by kernel_rfl) (by kernel_rfl) (by kernel_rfl) (zw Z)<|yc (i:=12) Z (by kernel_rfl) (by kernel_rfl) (by kernel_rfl) (zf j8 Z j7 (by decide) Z Z)<|yc (i:=13) Z (by kernel_rfl) (by kernel_rfl) (by kernel_rfl) (zo (c:=.own _ _) jf Z ⟨_,.head⟩ Z)<|yc (i:=14) Z (by kernel_rfl) (by kernel_rfl) (by kernel_rfl) (cD Z)<|yc (i:=15) Z (by kernel_rfl) (by kernel_rfl) (by kernel_rfl) (cD Z)<|yc (i:=16) Z (by kernel_rfl) (by kernel_rfl) (by kernel_rfl) (m5 Z)<|yc (i:=17) Z (by kernel_rfl) (by kernel_rfl) (by kernel_rfl) (cD Z)<|qr (i:=18) Z (by kernel_rfl)<|za (yi (j:=x.dst.toNat) jw Z5 Z Z (wc d0).symm ⟨_,.head⟩ ((aD _).trans hl1) (by omega))<|z6<|qr (i:=19) Z (by kernel_rfl)<|yy (j:=x.dst.toNat) Z5 Z Z .head (by first|omega|(simp;omega))<|z6<|qr (i:=20) Z (by kernel_rfl)<|za (yi (j:=x.dst.toNat) jk Z6 Z Z (wc d0).symm ⟨_,.t1⟩ ((aN _).trans hl2) (by omega))<|z6<|qr (i:=21) Z (by kernel_rfl)<|qb (j:=x.dst.toNat) Z6 Z Z .t1 (by first|omega|(simp;omega))<|z6<|qr (i:=22) Z (by kernel_rfl)<|za (yi (j:=x.dst.toNat) wy wz Z Z (wc d0).symm ⟨_,.t2⟩ ((aD _).trans hl3) (by omega))<|z6<|qr (i:=23) Z (by kernel_rfl)<|yy (j:=x.dst.toNat) wz Z Z .t2 (by first|omega|(simp;omega))<|z6<|jD.done (by kernel_rfl)<|yl ?_
       exact ⟨jo,jt,ids,by rw[hI];exact hids,rfl,by rw[hI];rfl⟩
      ·have n1:¬(x.op=1∨x.op=25∨x.op=26):=we (hz.symm.trans cz)
       refine zd<|ai<|za (q4 Z Z)<|ab Z<|z6<|ye (γ:=Bool) [0,3,4,6,7,8,9,10,11,12,106] (fun z=>[(142,.bool z)]) (fun z=>wO f iw ja jb jc jo jt ids s) (fun z=>z=decide (x.op=2∨x.op=3∨x.op=4)) ?_ (fun _ _ h=>h) ?_
       ·refine zt Z (fun c2=>?_) (fun c2=>?_)
        ·have e:x.op=2:=(aT hop 2 (by decide) rfl).1 c2
         refine zi ?_
         exact ⟨_,oY,aK,aH,by rw[w8 c2,e];rfl⟩
        ·have n2:¬x.op=2:=fun e=>c2 ((aT hop 2 (by decide) rfl).2 e)
         refine ai<|za (q4 Z Z)<|ab Z<|z6<|zt Z (fun c3=>?_) (fun c3=>?_)
         ·have e:x.op=3:=(aT hop 3 (by decide) rfl).1 c3
          refine zi ?_
          exact ⟨_,oY,aK,aH,by rw[w8 c3,e];rfl⟩
         ·have n3:¬x.op=3:=fun e=>c3 ((aT hop 3 (by decide) rfl).2 e)
          refine aW<|za (q4 Z Z)<|ab Z<|z6 ?_
          exact ⟨_,oY,aK,aH,by rw[decide_eq_decide];exact ⟨fun h=>.inr (.inr ((aT hop 4 (by decide) rfl).1 h)),fun h=>(aT hop 4 (by decide) rfl).2 ((h.resolve_left n2).resolve_left n3)⟩⟩
       ·rintro z hz2
        refine zy Z (fun cz2=>?_) (fun cz2=>?_)
        ·have e:x.op=2∨x.op=3∨x.op=4:=wd (hz2.symm.trans cz2)
         obtain ⟨d1,d0⟩:=hx.made (by rcases e with e|e|e<;>(rw[e];decide))
         obtain ⟨rfl,_,_⟩:a=aG s x∧p=pG s x∧r=rG s x:=by have:=hu (by rcases e with e|e|e<;>(rw[hargc,e];decide));simpa using this
         obtain ⟨rfl,_⟩:b=bG s x∧q=qG s x:=by have:=hw (by rcases e with e|e|e<;>(rw[hargc,e];decide));simpa using this
         obtain ⟨k,hk,hxk⟩:∃k:Nat,k≤2∧x.op - 2=(k:Int):=⟨(x.op - 2).toNat,by omega,by omega⟩
         have hI:ba s x=stI s x.dst (IntKind.i64.wrap (iu k (aG s x) (bG s x))):=by
          rw[cV hc];unfold doG;rw[if_neg n0,if_neg n1]
          have:k=0∨k=1∨k=2:=by omega
          rcases this with rfl|rfl|rfl
          ·rw[if_pos (by omega)]
          ·rw[if_neg (by omega),if_pos (by omega)]
          ·rw[if_neg (by omega),if_neg (by omega),if_pos (by omega)]
         have hwr:=H5 (E:=E) hk (x:=aG s x) (y:=bG s x)
         rw[←hxk] at hwr
         refine zr (fun j=>Nat.beq j 12) (by kernel_rfl) Z (zj (.r (.rest _)))<|ad 0 Z (cJ Z)<|ad 1 Z (zw Z)<|ad 2 Z (zf j8 Z Zu (by decide) Z Z)<|ad 3 Z (zo (c:=.own _ _) Yf Z ⟨_,.head⟩ Z)<|ad 4 Z (cD Z)<|ad 5 Z (bK j5 Z Z2 Z Z)<|ad 6 Z (cQ Z4 Z)<|ad 7 Z (Gv.sub Z Z (by unfold lE;omega))<|ad 8 Z (cD Z)<|ad 9 Z (cD Z)<|aQ 10 Z<|zh (hwr) Z<|z6<|aQ 11 Z<|za (yi (j:=x.dst.toNat) jw Z5 Z Z (wc d0).symm ⟨_,.head⟩ ((aD _).trans hl1) (by omega))<|z6<|yf<|yh (i:=12) Z (by kernel_rfl) (by kernel_rfl)<|yy (j:=x.dst.toNat) Z5 Z Z .t1 (by first|omega|(simp;omega))<|z6<|ym (by kernel_rfl)<|yl ?_
         exact ⟨jo,jt,ids,by rw[hI];exact hids,rfl,by rw[hI];rfl⟩
        ·have n2:¬(x.op=2∨x.op=3∨x.op=4):=we (hz2.symm.trans cz2)
         refine zd<|ai<|za (q4 Z Z)<|ab Z<|z6<|ye (γ:=Bool) [0,4,6,7,8,9,10,11,12,106] (fun z=>[(158,.bool z)]) (fun z=>wO f iw ja jb jc jo jt ids s) (fun z=>z=decide (x.op=5∨x.op=6)) ?_ (fun _ _ h=>h) ?_
         ·refine zt Z (fun c5=>?_) (fun c5=>?_)
          ·have e:x.op=5:=(aT hop 5 (by decide) rfl).1 c5
           refine zi ?_
           exact ⟨_,oc,aK,aH,by rw[w8 c5,e];rfl⟩
          ·have n5:¬x.op=5:=fun e=>c5 ((aT hop 5 (by decide) rfl).2 e)
           refine aW<|za (q4 Z Z)<|ab Z<|z6 ?_
           exact ⟨_,oc,aK,aH,by rw[decide_eq_decide];exact ⟨fun h=>.inr ((aT hop 6 (by decide) rfl).1 h),fun h=>(aT hop 6 (by decide) rfl).2 (h.resolve_left n5)⟩⟩
         ·rintro z hz3
          refine zy Z (fun cz3=>?_) (fun cz3=>?_)
          ·have e:x.op=5∨x.op=6:=wd (hz3.symm.trans cz3)
           obtain ⟨d1,d0⟩:=hx.made (by rcases e with e|e<;>(rw[e];decide))
           obtain ⟨rfl,_,_⟩:a=aG s x∧p=pG s x∧r=rG s x:=by have:=hu (by rcases e with e|e<;>(rw[hargc,e];decide));simpa using this
           obtain ⟨rfl,_⟩:b=bG s x∧q=qG s x:=by have:=hw (by rcases e with e|e<;>(rw[hargc,e];decide));simpa using this
           have hD:doG s x=if bG s x=0 then dw s 2 else stI s x.dst (if x.op=6 then lH (aG s x) (bG s x) else qA (aG s x) (bG s x)):=by
            rcases e with e|e<;>(unfold doG;simp[e])
           refine zd<|ai<|aa Z<|ak Z Z<|z6<|zt Z (fun c0b=>?_) (fun c0b=>?_)
           ·have hI:ba s x=dw s 2:=by rw[cV hc,hD,if_pos (by omega)]
            refine ai<|aJ Z<|zu Z (zj (.l (.l (.l (.l (.l (.l (.l (.rest _))))))))) (eu f iw ja jb jc jo jt ids s 2) ?_
            rintro r164 O164 ⟨rfl,rfl⟩
            refine z6<|zg<|yl ?_
            exact ⟨jo,jt,ids,by rw[hI];exact hids,rfl,by rw[hI];rfl⟩
           ·have hb0:¬bG s x=0:=by omega
            have hI:ba s x=stI s x.dst (if x.op=6 then lH (aG s x) (bG s x) else qA (aG s x) (bG s x)):=by rw[cV hc,hD,if_neg hb0]
            refine zi<|ai<|aa Z<|aa Z<|zh (H6 hb0) Z<|za (ke Z)<|za (iN Z Z)<|za (iN Z Z)<|ao Z<|ao Z<|z6<|zd<|ai<|za (yv (v:=.str _) Z)<|za (q4 Z Z)<|z6<|ye (γ:=Int) [0,12] (fun v=>[(13,.int .i64 v)]) (fun v=>wO f iw ja jb jc jo jt ids s) (fun v=>v=if x.op=6 then lH (aG s x) (bG s x) else qA (aG s x) (bG s x)) ?_ (fun _ _ h=>h) ?_
            ·refine zt Z (fun c6=>?_) (fun c6=>?_)
             ·have e6:x.op=6:=(aT hop 6 (by decide) rfl).1 c6
              refine aW<|aa Z<|ao Z<|z6 ?_
              exact ⟨_,eo,aK,aH,by rw[if_pos e6];rfl⟩
             ·have e6:¬x.op=6:=fun e=>c6 ((aT hop 6 (by decide) rfl).2 e)
              refine zi ?_
              exact ⟨_,eo,aK,aH,by rw[if_neg e6];rfl⟩
            ·rintro v hv3
             rw[←hv3] at hI
             refine aW<|aJ Z<|ap Z<|za (zf j8 Z Zu (by decide) Z Z)<|za (zo (c:=.own _ _) Yf Z ⟨_,.head⟩ Z)<|aa Z<|aa Z<|za (yi (j:=x.dst.toNat) jw Z5 Z Z (wc d0).symm ⟨_,.t1⟩ ((aD _).trans hl1) (by omega))<|yy (j:=x.dst.toNat) Z5 Z Z .t1 (by first|omega|(simp;omega))<|z6<|yl ?_
             exact ⟨jo,jt,ids,by rw[hI];exact hids,rfl,by rw[hI];rfl⟩
          ·have n5:¬(x.op=5∨x.op=6):=we (hz3.symm.trans cz3)
           refine ai<|za (q4 Z Z)<|ab Z<|z6<|zt Z (fun c7=>?_) (fun c7=>?_)
           ·have e:x.op=7:=(aT hop 7 (by decide) rfl).1 c7
            obtain ⟨d1,d0⟩:=hx.made (by rw[e];decide)
            obtain ⟨rfl,_,_⟩:a=aG s x∧p=pG s x∧r=rG s x:=by have:=hu (by rw[hargc,e];decide);simpa using this
            obtain ⟨rfl,_⟩:b=bG s x∧q=qG s x:=by have:=hw (by rw[hargc,e];decide);simpa using this
            have hI:ba s x=stB s x.dst (decide (aG s x=bG s x)):=by rw[cV hc];unfold doG;simp[e]
            refine aW<|aJ Z<|ap Z<|za (zf j8 Z X3 (by decide) Z Z)<|za (zo (c:=.own _ _) Xf Z ⟨_,.head⟩ Z)<|aa Z<|aa Z<|aa Z<|ak Z Z<|za (yi (j:=x.dst.toNat) jk Z6 Z Z (wc d0).symm ⟨_,.t2⟩ ((aN _).trans hl2) (by omega))<|qb (j:=x.dst.toNat) Z6 Z Z .t2 (by first|omega|(simp;omega))<|z6<|yl ?_
            exact ⟨jo,jt,ids,by rw[hI];exact hids,rfl,by rw[hI];rfl⟩
           ·have n7:¬x.op=7:=fun e=>c7 ((aT hop 7 (by decide) rfl).2 e)
            refine ai<|za (q4 Z Z)<|ab Z<|z6<|zt Z (fun c8=>?_) (fun c8=>?_)
            ·have e:x.op=8:=(aT hop 8 (by decide) rfl).1 c8
             obtain ⟨d1,d0⟩:=hx.made (by rw[e];decide)
             obtain ⟨rfl,_,_⟩:a=aG s x∧p=pG s x∧r=rG s x:=by have:=hu (by rw[hargc,e];decide);simpa using this
             obtain ⟨rfl,_⟩:b=bG s x∧q=qG s x:=by have:=hw (by rw[hargc,e];decide);simpa using this
             have hI:ba s x=stB s x.dst (decide (aG s x<bG s x)):=by rw[cV hc];unfold doG;simp[e]
             refine aW<|aJ Z<|ap Z<|za (zf j8 Z X3 (by decide) Z Z)<|za (zo (c:=.own _ _) Xf Z ⟨_,.head⟩ Z)<|aa Z<|aa Z<|aa Z<|ay Z Z<|za (yi (j:=x.dst.toNat) jk Z6 Z Z (wc d0).symm ⟨_,.t2⟩ ((aN _).trans hl2) (by omega))<|qb (j:=x.dst.toNat) Z6 Z Z .t2 (by first|omega|(simp;omega))<|z6<|yl ?_
             exact ⟨jo,jt,ids,by rw[hI];exact hids,rfl,by rw[hI];rfl⟩
            ·have n8:¬x.op=8:=fun e=>c8 ((aT hop 8 (by decide) rfl).2 e)
             refine ai<|za (q4 Z Z)<|ab Z<|z6<|zt Z (fun c9=>?_) (fun c9=>?_)
             ·have e:x.op=9:=(aT hop 9 (by decide) rfl).1 c9
              obtain ⟨d1,d0⟩:=hx.made (by rw[e];decide)
              obtain ⟨rfl,_,_⟩:a=aG s x∧p=pG s x∧r=rG s x:=by have:=hu (by rw[hargc,e];decide);simpa using this
              obtain ⟨rfl,_⟩:b=bG s x∧q=qG s x:=by have:=hw (by rw[hargc,e];decide);simpa using this
              have hI:ba s x=stB s x.dst (decide (aG s x≤bG s x)):=by rw[cV hc];unfold doG;simp[e]
              refine aW<|aJ Z<|ap Z<|za (zf j8 Z X3 (by decide) Z Z)<|za (zo (c:=.own _ _) Xf Z ⟨_,.head⟩ Z)<|aa Z<|aa Z<|aa Z<|za (Gv.leq Z Z)<|za (yi (j:=x.dst.toNat) jk Z6 Z Z (wc d0).symm ⟨_,.t2⟩ ((aN _).trans hl2) (by omega))<|qb (j:=x.dst.toNat) Z6 Z Z .t2 (by first|omega|(simp;omega))<|z6<|yl ?_
              exact ⟨jo,jt,ids,by rw[hI];exact hids,rfl,by rw[hI];rfl⟩
             ·have n9:¬x.op=9:=fun e=>c9 ((aT hop 9 (by decide) rfl).2 e)
              refine ai<|za (q4 Z Z)<|ab Z<|z6<|zt Z (fun c10=>?_) (fun c10=>?_)
              ·have e:x.op=10:=(aT hop 10 (by decide) rfl).1 c10
               obtain ⟨d1,d0⟩:=hx.made (by rw[e];decide)
               obtain ⟨_,rfl,_⟩:a=aG s x∧p=pG s x∧r=rG s x:=by have:=hu (by rw[hargc,e];decide);simpa using this
               have hI:ba s x=stB s x.dst (!pG s x):=by rw[cV hc];unfold doG;simp[e]
               refine aW<|aJ Z<|ap Z<|za (zf j8 Z X3 (by decide) Z Z)<|za (zo (c:=.own _ _) Xf Z ⟨_,.head⟩ Z)<|aa Z<|aj Z<|aC Z<|za (yi (j:=x.dst.toNat) jk Z6 Z Z (wc d0).symm ⟨_,.t2⟩ ((aN _).trans hl2) (by omega))<|qb (j:=x.dst.toNat) Z6 Z Z .t2 (by first|omega|(simp;omega))<|z6<|yl ?_
               exact ⟨jo,jt,ids,by rw[hI];exact hids,rfl,by rw[hI];rfl⟩
              ·have n10:¬x.op=10:=fun e=>c10 ((aT hop 10 (by decide) rfl).2 e)
               refine ai<|za (q4 Z Z)<|ab Z<|z6<|zt Z (fun c11=>?_) (fun c11=>?_)
               ·have e:x.op=11:=(aT hop 11 (by decide) rfl).1 c11
                obtain ⟨d1,d0⟩:=hx.made (by rw[e];decide)
                obtain ⟨_,rfl,_⟩:a=aG s x∧p=pG s x∧r=rG s x:=by have:=hu (by rw[hargc,e];decide);simpa using this
                obtain ⟨_,rfl⟩:b=bG s x∧q=qG s x:=by have:=hw (by rw[hargc,e];decide);simpa using this
                have hI:ba s x=stB s x.dst (pG s x&&qG s x):=by rw[cV hc];unfold doG;simp[e]
                refine aW<|aJ Z<|ap Z<|za (zf j8 Z X3 (by decide) Z Z)<|za (zo (c:=.own _ _) Xf Z ⟨_,.head⟩ Z)<|aa Z<|aj Z<|aj Z<|zq (s:=232) Z (fun cp=>?_) (fun cp=>?_)
                ·have cp:pG s x=true:=cp
                 rw[cp,Bool.true_and] at hI
                 refine z8 Z Z cp<|aj Z<|aw Z cp Z<|za (yi (j:=x.dst.toNat) jk Z6 Z Z (wc d0).symm ⟨_,.t2⟩ ((aN _).trans hl2) (by omega))<|qb (j:=x.dst.toNat) Z6 Z Z .t2 (by first|omega|(simp;omega))<|z6<|yl ?_
                 exact ⟨jo,jt,ids,by rw[hI];exact hids,rfl,by rw[hI];rfl⟩
                ·have cp:pG s x=false:=cp
                 rw[cp,Bool.false_and] at hI
                 refine z7 Z Z cp<|ax Z cp Z<|za (yi (j:=x.dst.toNat) jk Z6 Z Z (wc d0).symm ⟨_,.t2⟩ ((aN _).trans hl2) (by omega))<|qb (j:=x.dst.toNat) Z6 Z Z .t2 (by first|omega|(simp;omega))<|z6<|yl ?_
                 exact ⟨jo,jt,ids,by rw[hI];exact hids,rfl,by rw[hI];rfl⟩
               ·have n11:¬x.op=11:=fun e=>c11 ((aT hop 11 (by decide) rfl).2 e)
                refine ai<|za (q4 Z Z)<|ab Z<|z6<|zt Z (fun c12=>?_) (fun c12=>?_)
                ·have e:x.op=12:=(aT hop 12 (by decide) rfl).1 c12
                 obtain ⟨d1,d0⟩:=hx.made (by rw[e];decide)
                 obtain ⟨_,_,rfl⟩:a=aG s x∧p=pG s x∧r=rG s x:=by have:=hu (by rw[hargc,e];decide);simpa using this
                 have hrr:rG s x<s.arrays.length:=(jV hg (hx.a0 (by rw[hargc,e];decide))).2
                 refine zd<|ai<|aa Z<|ay Z Z<|z6<|zt Z (fun cr=>?_) (fun cr=>?_)
                 ·have cr:rG s x<0:=by omega
                  have hI:ba s x=dw s 2:=by rw[cV hc];unfold doG;simp[e,cr]
                  refine ai<|aJ Z<|zu Z (zj (.l (.l (.l (.l (.l (.l (.l (.rest _))))))))) (eu f iw ja jb jc jo jt ids s 2) ?_
                  rintro r241 O241 ⟨rfl,rfl⟩
                  refine z6<|zg<|yl ?_
                  exact ⟨jo,jt,ids,by rw[hI];exact hids,rfl,by rw[hI];rfl⟩
                 ·have cr:¬rG s x<0:=by omega
                  have hI:ba s x=stI s x.dst ((dE s (rG s x)).length):=by rw[cV hc];unfold doG;simp[e,cr]
                  obtain ⟨w,hw0⟩:=tZ hids (j:=(rG s x).toNat) (by omega)
                  refine zi<|zr (fun j=>Nat.beq j 14) (by kernel_rfl) Z (zj (.r (.l (.l (.l (.r (.rest _)))))))<|ad 0 Z (cJ Z)<|ad 1 Z (zw Z)<|ad 2 Z (zf j8 Z Zu (by decide) Z Z)<|ad 3 Z (zo (c:=.own _ _) Yf Z ⟨_,.head⟩ Z)<|ad 4 Z (cD Z)<|ad 5 Z (cJ Z)<|ad 6 Z (zw Z)<|ad 7 Z (zf j8 Z Yi (by decide) Z Z)<|ad 8 Z (zo (c:=.own _ _) X7 Z ⟨_,.head⟩ Z)<|ad 9 Z (cD Z)<|ad 10 Z (yi (j:=(rG s x).toNat) Zj Zu Z Z (wc (Int.not_lt.1 cr)).symm ⟨_,.t1⟩ (jE hids) (by omega))<|ad 11 Z (Gv.load1G (c:=_) Yf Z ⟨_,.t1⟩ (jF hw0 (iy (by omega) hrr)))<|ad 12 Z (qo jw Z)<|aQ 13 Z<|za (yi (j:=x.dst.toNat) jw Z5 Z Z (wc d0).symm ⟨_,.head⟩ ((aD _).trans hl1) (by omega))<|z6<|yf<|yh (i:=14) Z (by kernel_rfl) (by kernel_rfl)<|yy (j:=x.dst.toNat) Z5 Z Z .t2 (by first|omega|(simp;omega))<|z6<|ym (by kernel_rfl)<|y9 (zb (zc .t4))<|y9 (zb (zc .t4))<|y9 (zb (zc .t4))<|y9 (zb (zc .t3))<|yl ?_
                  exact ⟨jo,jt,ids,by rw[hI];exact hids,rfl,by rw[hI];rfl⟩
                ·have n12:¬x.op=12:=fun e=>c12 ((aT hop 12 (by decide) rfl).2 e)
                 refine ai<|za (q4 Z Z)<|ab Z<|z6<|zt Z (fun c13=>?_) (fun c13=>?_)
                 ·have e:x.op=13:=(aT hop 13 (by decide) rfl).1 c13
                  obtain ⟨d1,d0⟩:=hx.made (by rw[e];decide)
                  obtain ⟨_,_,rfl⟩:a=aG s x∧p=pG s x∧r=rG s x:=by have:=hu (by rw[hargc,e];decide);simpa using this
                  obtain ⟨rfl,_⟩:b=bG s x∧q=qG s x:=by have:=hw (by rw[hargc,e];decide);simpa using this
                  refine zd<|ai<|aJ Z<|aa Z<|aa Z<|zu Z (zj (.l (.l (.l (.l (.l (.l (.l (.rest _))))))))) (k8 f iw ja jb jc jo jt ids s (rG s x) (bG s x) hids) ?_
                  rintro r261 O261 ⟨rfl,rfl⟩
                  refine aC Z<|z6<|zy Z (fun cp=>?_) (fun cp=>?_)
                  ·have cp:¬di s (rG s x) (bG s x)=true:=by simpa using cp
                   have hI:ba s x=dw s 2:=by rw[cV hc];unfold doG;simp[e,cp]
                   refine ai<|aJ Z<|zu Z (zj (.l (.l (.l (.l (.l (.l (.l (.rest _))))))))) (eu f iw ja jb jc jo jt ids s 2) ?_
                   rintro r264 O264 ⟨rfl,rfl⟩
                   refine z6<|zg<|yl ?_
                   exact ⟨jo,jt,ids,by rw[hI];exact hids,rfl,by rw[hI];rfl⟩
                  ·have cp:di s (rG s x) (bG s x)=true:=by simpa using cp
                   obtain ⟨h1,h2,h3,h4⟩:=iW.1 cp
                   obtain ⟨w,hw0⟩:=tZ hids (j:=(rG s x).toNat) (by omega)
                   obtain ⟨X,hX1,hX2⟩:=tY FA ids s.arrays _ hw0 (iy h1 h2)
                   have hI:ba s x=stI s x.dst (vi (dE s (rG s x)) (bG s x)):=by rw[cV hc];unfold doG;simp[e,cp]
                   refine zz (aS.bagOut (i:=w) (o:=.grow 1 2 (cI (dE s (rG s x)))) (X':=X) (hX1) .t6)<|zi<|zr (fun j=>Nat.beq j 16) (by kernel_rfl) Z (zj (.r (.r (.l (.l (.l (.r (.rest _))))))))<|ad 0 Z (cJ Z)<|ad 1 Z (zw Z)<|ad 2 Z (zf j8 Z Zu (by decide) Z Z)<|ad 3 Z (zo (c:=.own _ _) Yf Z ⟨_,.t1⟩ Z)<|ad 4 Z (cD Z)<|ad 5 Z (cJ Z)<|ad 6 Z (zw Z)<|ad 7 Z (zf j8 Z Yi (by decide) Z Z)<|ad 8 Z (zo (c:=.own _ _) X7 Z ⟨_,.t1⟩ Z)<|ad 9 Z (cD Z)<|ad 10 Z (yi (j:=(rG s x).toNat) Zj Zu Z Z (wc h1).symm ⟨_,.t2⟩ (jE hids) (by omega))<|ad 11 Z (Gv.load1G (c:=_) Yf Z ⟨_,.t2⟩ (jF hw0 (iy h1 h2)))<|ad 12 Z (cD Z)<|ad 13 Z (yi (j:=(bG s x).toNat) jw Z5 Z Z (wc h3).symm ⟨_,.head⟩ (aD _) (by omega))<|ad 14 Z (yz (j:=(bG s x).toNat) Zx Z ⟨_,.head⟩ (gf h4 h3))<|aQ 15 Z<|za (yi (j:=x.dst.toNat) jw Z5 Z Z (wc d0).symm ⟨_,.head⟩ ((aD _).trans hl1) (by omega))<|z6<|yf<|yh (i:=16) Z (by kernel_rfl) (by kernel_rfl)<|yy (j:=x.dst.toNat) Z5 Z Z .t3 (by first|omega|(simp;omega))<|z6<|ym (by kernel_rfl)<|y9 (aS.bagIn (X':=rm ids s.arrays) .head (hX1.symm) .t6)<|y9 (zb (zc .t4))<|y9 (zb (zc .t4))<|y9 (zb (zc .t4))<|y9 (zb (zc .t3))<|yl ?_
                   exact ⟨jo,jt,ids,by rw[hI];exact hids,rfl,by rw[hI];rfl⟩
                 ·have n13:¬x.op=13:=fun e=>c13 ((aT hop 13 (by decide) rfl).2 e)
                  refine ai<|za (q4 Z Z)<|ab Z<|z6<|zt Z (fun c14=>?_) (fun c14=>?_)
                  ·have e:x.op=14:=(aT hop 14 (by decide) rfl).1 c14
                   obtain ⟨_,_,rfl⟩:a=aG s x∧p=pG s x∧r=rG s x:=by have:=hu (by rw[hargc,e];decide);simpa using this
                   obtain ⟨rfl,_⟩:b=bG s x∧q=qG s x:=by have:=hw (by rw[hargc,e];decide);simpa using this
                   obtain ⟨q2,r2⟩:=hx.a2 (by rw[hargc,e];decide)
                   have hal:2<x.args.length:=by rw[hargc,e];decide
                   refine zd<|ai<|aJ Z<|aa Z<|aa Z<|zu Z (zj (.l (.l (.l (.l (.l (.l (.l (.rest _))))))))) (k8 f iw ja jb jc jo jt ids s (rG s x) (bG s x) hids) ?_
                   rintro r286 O286 ⟨rfl,rfl⟩
                   refine aC Z<|z6<|zy Z (fun cp=>?_) (fun cp=>?_)
                   ·have cp:¬di s (rG s x) (bG s x)=true:=by simpa using cp
                    have hI:ba s x=dw s 2:=by rw[cV hc];unfold doG;simp[e,cp]
                    refine ai<|aJ Z<|zu Z (zj (.l (.l (.l (.l (.l (.l (.l (.rest _))))))))) (eu f iw ja jb jc jo jt ids s 2) ?_
                    rintro r289 O289 ⟨rfl,rfl⟩
                    refine z6<|zg<|yl ?_
                    exact ⟨jo,jt,ids,by rw[hI];exact hids,rfl,by rw[hI];rfl⟩
                   ·have cp:di s (rG s x) (bG s x)=true:=by simpa using cp
                    obtain ⟨h1,h2,h3,h4⟩:=iW.1 cp
                    obtain ⟨w,hw0⟩:=tZ hids (j:=(rG s x).toNat) (by omega)
                    obtain ⟨X,hX1,hX2⟩:=tY FA ids s.arrays _ hw0 (iy h1 h2)
                    have hI:ba s x={ s with arrays:=s.arrays.set (rG s x).toNat ((dE s (rG s x)).set (bG s x).toNat (vi s.ints (wv x))) }:=by rw[cV hc];unfold doG;simp[e,cp]
                    refine zz (aS.bagOut (i:=w) (o:=.grow 1 2 (cI (dE s (rG s x)))) (X':=X) (hX1) .t6)<|zi<|zr (fun j=>Nat.beq j 18) (by kernel_rfl) Z (zj (.l (.r (.r (.l (.l (.r (.rest _))))))))<|ad 0 Z (cJ Z)<|ad 1 Z (zw Z)<|ad 2 Z (zf j8 Z Yi (by decide) Z Z)<|ad 3 Z (zo (c:=.own _ _) X7 Z ⟨_,.head⟩ Z)<|ad 4 Z (cD Z)<|ad 5 Z (yi (j:=(rG s x).toNat) Zj Zu Z Z (wc h1).symm ⟨_,.t2⟩ (jE hids) (by omega))<|ad 6 Z (Gv.load1G (c:=_) Yf Z ⟨_,.t2⟩ (jF hw0 (iy h1 h2)))<|ad 7 Z (cD Z)<|ad 8 Z (cJ Z)<|ad 9 Z (zw Z)<|ad 10 Z (zf j8 Z Zu (by decide) Z Z)<|ad 11 Z (zo (c:=.own _ _) Yf Z ⟨_,.head⟩ Z)<|ad 12 Z (wt Z)<|ad 13 Z (bv 2 wy wz Z Z Z (rS hal))<|ad 14 Z (cQ j6 Z)<|ad 15 Z (yi (j:=(wv x).toNat) jw Z5 Z Z (wc r2).symm ⟨_,.t1⟩ ((aD _).trans hl1) (by omega))<|ad 16 Z (yz (j:=(wv x).toNat) Zx Z ⟨_,.t1⟩ (gf (by omega) r2))<|aQ 17 Z<|za (yi (j:=(bG s x).toNat) jw Z5 Z Z (wc h3).symm ⟨_,.head⟩ (aD _) (by omega))<|z6<|yf<|yh (i:=18) Z (by kernel_rfl) (by kernel_rfl)<|yy (j:=(bG s x).toNat) Z5 Z Z .t3 (by first|omega|(simp;omega))<|z6<|ym (by kernel_rfl)<|y9 (aS.bagIn (X':=rm ids (s.arrays.set (rG s x).toNat ((dE s (rG s x)).set (bG s x).toNat (vi s.ints (wv x))))) .t3 ((by have:=hX2 w ((dE s (rG s x)).set (bG s x).toNat (vi s.ints (wv x)));rw[DZ hw0] at this;exact this)) .t6)<|y9 (zb (zc .t2))<|y9 (zb (zc .t4))<|y9 (zb (zc .t4))<|y9 (zb (zc .t4))<|y9 (zb (zc .t4))<|yl ?_
                    exact ⟨jo,jt,ids,by rw[hI];simpa using hids,rfl,by rw[hI];unfold wO wR FB;rw[wl (iy h1 h2) (List.length_set ..)];simp⟩
                  ·have n14:¬x.op=14:=fun e=>c14 ((aT hop 14 (by decide) rfl).2 e)
                   refine ai<|za (q4 Z Z)<|ab Z<|z6<|zt Z (fun c15=>?_) (fun c15=>?_)
                   ·have e:x.op=15:=(aT hop 15 (by decide) rfl).1 c15
                    obtain ⟨d1,d0⟩:=hx.made (by rw[e];decide)
                    obtain ⟨rfl,_,_⟩:a=aG s x∧p=pG s x∧r=rG s x:=by have:=hu (by rw[hargc,e];decide);simpa using this
                    refine zm<|zd<|ye (γ:=Bool) [0,7,12] (fun z=>[(333,.bool z)]) (fun z=>wO f iw ja jb jc jo jt ids s) (fun z=>z=decide (aG s x<0∨64<aG s x)) ?_ (fun _ _ h=>h) ?_
                    ·refine aW<|aa Z<|ay Z Z<|aj Z<|zq (s:=336) Z (fun cn=>?_) (fun cn=>?_)
                     ·have cn2:aG s x<0:=by simpa using cn
                      refine z7 Z Z cn<|z7 Z Z cn<|aw Z cn Z<|ab Z<|z6 ?_
                      exact ⟨_,db,aK,aH,by rw[w8 (.inl cn2)]⟩
                     ·have cn2:¬aG s x<0:=by simpa using cn
                      refine z8 Z Z cn<|aa Z<|z8 Z Z cn<|aZ Z Z<|ax Z cn Z<|ab Z<|z6 ?_
                      exact ⟨_,db,aK,aH,by rw[decide_eq_decide];exact ⟨fun h=>.inr h,fun h=>h.resolve_left cn2⟩⟩
                    ·rintro z hz4
                     refine zy Z (fun cz4=>?_) (fun cz4=>?_)
                     ·have cz4:aG s x<0∨64<aG s x:=wd (hz4.symm.trans cz4)
                      have hI:ba s x=dw s 2:=by rw[cV hc];unfold doG;simp[e,cz4]
                      refine aW<|aJ Z<|zu Z (zj (.l (.l (.l (.l (.l (.l (.l (.rest _))))))))) (eu f iw ja jb jc jo jt ids s 2) ?_
                      rintro r341 O341 ⟨rfl,rfl⟩
                      refine z6<|yl ?_
                      exact ⟨jo,jt,ids,by rw[hI];exact hids,rfl,by rw[hI];rfl⟩
                     ·have cz4:¬(aG s x<0∨64<aG s x):=we (hz4.symm.trans cz4)
                      refine ai<|aJ Z<|ap Z<|za (zf j8 Z Yi (by decide) Z Z)<|za (zo (c:=.own _ _) X7 Z ⟨_,.head⟩ Z)<|za (qo Zj Z)<|za (q5 Z Z)<|ab Z<|z6<|zt Z (fun c32=>?_) (fun c32=>?_)
                      ·have c32:32≤s.arrays.length:=by omega
                       have hI:ba s x=dw s 3:=by rw[cV hc];unfold doG;rw[e,if_neg (by decide),if_neg (by decide),if_neg (by decide),if_neg (by decide),if_neg (by decide),if_neg (by decide),if_neg (by decide),if_neg (by decide),if_neg (by decide),if_neg (by decide),if_neg (by decide),if_neg (by decide),if_neg (by decide),if_neg (by decide),if_neg (by decide),if_pos rfl,if_neg cz4,if_pos c32]
                       refine aW<|aJ Z<|zu Z (zj (.l (.l (.l (.l (.l (.l (.l (.rest _))))))))) (eu f iw ja jb jc jo jt ids s 3) ?_
                       rintro r350 O350 ⟨rfl,rfl⟩
                       refine z6<|yl ?_
                       exact ⟨jo,jt,ids,by rw[hI];exact hids,rfl,by rw[hI];rfl⟩
                      ·have c32:¬32≤s.arrays.length:=by omega
                       have hI:ba s x=stA { s with arrays:=s.arrays++[List.replicate (aG s x).toNat 0] } x.dst s.arrays.length:=by rw[cV hc];unfold doG;rw[e,if_neg (by decide),if_neg (by decide),if_neg (by decide),if_neg (by decide),if_neg (by decide),if_neg (by decide),if_neg (by decide),if_neg (by decide),if_neg (by decide),if_neg (by decide),if_neg (by decide),if_neg (by decide),if_neg (by decide),if_neg (by decide),if_neg (by decide),if_pos rfl,if_neg cz4,if_neg c32]
                       refine zd<|zr (fun j=>Nat.beq j 11) (by kernel_rfl) Z (zj (.r (.rest _)))<|ad 0 Z (cJ Z)<|ad 1 Z (cJ Z)<|ad 2 Z (zw Z)<|ad 3 Z (zf j8 Z Yi (by decide) Z Z)<|ad 4 Z (zo (c:=.own _ _) X7 Z ⟨_,.head⟩ Z)<|ad 5 Z (cD Z)<|aQ 6 Z<|qg (m:=(aG s x).toNat) jw X8 Z Z Z Z Z (by omega) (by omega) (by show (8:Int)*_≤_;omega) (by omega)<|fun i316=>z6<|aQ 7 Z<|y4 (rows:=[[_]]) DY Z Z Z Z Z<|z6<|aQ 8 Z<|yu (k:=1) Zj type87 Z Z Z Z Z (fun _=>.t4) (by rw[jE hids];omega) (by decide) Z (by show (_+1)*24≤_;omega) (by show _+1≤_;omega)<|fun i318=>z6<|yp (i:=9) Z (by kernel_rfl) (by kernel_rfl) (by kernel_rfl) (by kernel_rfl) (zw Z)<|ad 10 Z (zf j8 Z Yi (by decide) Z Z)<|yf<|yh (i:=11) Z (by kernel_rfl) (by kernel_rfl)<|yq (l:=[_]) (new:=[_,_,_,_,_,_,_,_,_,_,_,_,_,_,_,_,_,_,_,_,_,_,_]) Yi Z Z Z Z Z Z .head Z Z<|z6<|ym (by kernel_rfl)<|zz (aS.bagIn (X':=rm (ids++[i316]) (s.arrays++[List.replicate (aG s x).toNat 0])) .t1 (wm i316 _ hids) .t6)<|zr (fun j=>Nat.beq j 12) (by kernel_rfl) Z (zj (.r (.rest _)))<|ad 0 Z (cJ Z)<|ad 1 Z (zw Z)<|ad 2 Z (zf j8 Z j7 (by decide) Z Z)<|ad 3 Z (zo (c:=.own _ _) jf Z ⟨_,.head⟩ Z)<|ad 4 Z (cD Z)<|ad 5 Z (cJ Z)<|ad 6 Z (zw Z)<|ad 7 Z (zf j8 Z Yi (by decide) Z Z)<|ad 8 Z (zo (c:=.own _ _) X7 Z ⟨_,.head⟩ Z)<|ad 9 Z (qo Zj Z)<|ad 10 Z (Gv.sub Z Z (by unfold lE;simp only[List.length_cons,List.length_nil];omega))<|aQ 11 Z<|za (yi (j:=x.dst.toNat) wy wz Z Z (wc d0).symm ⟨_,.t2⟩ ((aD _).trans hl3) (by omega)) ?_
                       refine z6<|yf<|yh (i:=12) Z (by kernel_rfl) (by kernel_rfl)<|yy (j:=x.dst.toNat) wz Z Z .t3 (by first|omega|(simp;omega))<|z6<|ym (by kernel_rfl)<|y9 (zb (zc .t5))<|y9 (zb (zc .t5))<|y9 (zb (zc .t5))<|y9 (zb (zc .t5))<|y9 (zb (zc .t5))<|y9 (zb (zc .t5))<|yl ?_
                       exact ⟨i318,jt,ids++[i316],by rw[hI];simp[stA,hids],rfl,by rw[hI];exact G3 f iw ja jb jc i318 jt hids i316 (aG s x).toNat x.dst _ (by simp only[List.length_cons,List.length_nil];omega)⟩
                   ·have n15:¬x.op=15:=fun e=>c15 ((aT hop 15 (by decide) rfl).2 e)
                    refine ai<|za (q4 Z Z)<|ab Z<|z6<|zt Z (fun c16=>?_) (fun c16=>?_)
                    ·have e:x.op=16:=(aT hop 16 (by decide) rfl).1 c16
                     obtain ⟨d1,d0⟩:=hx.made (by rw[e];decide)
                     have hI:ba s x=stA s x.dst (-1):=by rw[cV hc];unfold doG;simp[e]
                     refine aW<|aJ Z<|ap Z<|za (zf j8 Z j7 (by decide) Z Z)<|za (zo (c:=.own _ _) jf Z ⟨_,.head⟩ Z)<|aa Z<|za (yi (j:=x.dst.toNat) wy wz Z Z (wc d0).symm ⟨_,.t3⟩ ((aD _).trans hl3) (by omega))<|yy (j:=x.dst.toNat) wz Z Z .t3 (by first|omega|(simp;omega))<|z6<|yl ?_
                     exact ⟨jo,jt,ids,by rw[hI];exact hids,rfl,by rw[hI];rfl⟩
                    ·have n16:¬x.op=16:=fun e=>c16 ((aT hop 16 (by decide) rfl).2 e)
                     refine ai<|za (q4 Z Z)<|ab Z<|z6<|zt Z (fun c17=>?_) (fun c17=>?_)
                     ·have e:x.op=17:=(aT hop 17 (by decide) rfl).1 c17
                      obtain ⟨rfl,_,_⟩:a=aG s x∧p=pG s x∧r=rG s x:=by have:=hu (by rw[hargc,e];decide);simpa using this
                      refine zd<|ai<|aJ Z<|ap Z<|za (zf j8 Z Y6 (by decide) Z Z)<|za (zf Ze Z Zu (by decide) Z Z)<|za (zo (c:=.own _ _) Yf Z ⟨_,.head⟩ Z)<|za (qo jw Z)<|za (q5 Z Z)<|z6<|zt Z (fun ct=>?_) (fun ct=>?_)
                      ·have ct:4096≤s.trace.length:=by omega
                       have hI:ba s x=dw s 3:=by rw[cV hc];unfold doG;simp[e,ct]
                       refine ai<|aJ Z<|zu Z (zj (.l (.l (.l (.l (.l (.l (.l (.rest _))))))))) (eu f iw ja jb jc jo jt ids s 3) ?_
                       rintro r369 O369 ⟨rfl,rfl⟩
                       refine z6<|zg<|yl ?_
                       exact ⟨jo,jt,ids,by rw[hI];exact hids,rfl,by rw[hI];rfl⟩
                      ·have ct:¬4096≤s.trace.length:=by omega
                       have hI:ba s x={ s with trace:=s.trace++[aG s x] }:=by rw[cV hc];unfold doG;simp[e,ct]
                       refine zi<|aW<|aJ Z<|aJ Z<|ap Z<|za (zf j8 Z Y6 (by decide) Z Z)<|za (zf Ze Z Zu (by decide) Z Z)<|za (zo (c:=.own _ _) Yf Z ⟨_,.head⟩ Z)<|aa Z<|y4 (rows:=[[_]]) G2 Z Z Z Z Z<|yu (k:=1) jw X8 Z Z Z Z Z (fun _=>.t5) (by rw[aD];omega) (by decide) Z (by show (_+1)*8≤_;omega) (by show _+1≤_;omega)<|fun i378=>ap Z<|za (zf j8 Z Y6 (by decide) Z Z)<|za (zf Ze Z Zu (by decide) Z Z)<|yq (l:=[_]) (new:=[_,_,_,_,_,_,_,_,_,_,_,_,_,_,_,_,_,_,_,_,_,_,_]) Zu Z Z Z Z Z Z .head Z Z<|z6<|yl ?_
                       exact ⟨jo,i378,ids,by rw[hI];exact hids,rfl,by rw[hI];exact G4 f iw ja jb jc jo i378 _⟩
                     ·exfalso
                      have n17:¬x.op=17:=fun e=>c17 ((aT hop 17 (by decide) rfl).2 e)
                      omega
end Go.Proofs.YtdilpodccjlkgaaGreatDoor
