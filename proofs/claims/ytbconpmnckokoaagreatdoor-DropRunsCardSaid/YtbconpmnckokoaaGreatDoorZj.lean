/- An instruction of the document's machine. Of programs as they are run. -/
import Derived.Test.YtbconpmnckokoaaGreatDoorZi
set_option linter.unusedVariables false
set_option linter.unusedSimpArgs false
set_option linter.unusedSectionVars false
namespace Go.Proofs.YtbconpmnckokoaaGreatDoor
open Go.Proofs.Tryz
open Go.Proofs Go.Lib Go.Shelf Go.RowKit
theorem wS:dc prog 40 49 1 1 [.raw (.slice none 0 0)]:=⟨_,Z2,Z3,zeroValue49,by decide,by decide,by kernel_rfl⟩
theorem Cx:dc prog 49 2 1 1 [.int .i64 0]:=⟨_,jg,Z0,zeroValue2,by decide,by decide,by kernel_rfl⟩
variable {E:World}
set_option maxRecDepth 20000
theorem bK {s:GS} {x:aD} (h:¬(18≤x.op∧x.op≤24)):bi s x=doG s x:=by unfold bi;rw[if_neg h]
theorem nq {l:List Bool} {v:Int} (h1:v<l.length) (_:0≤v):l[v.toNat]?=some (gb l v):=by
 unfold gb;rw[qo (by omega)];rfl
theorem wT {α:Type}:∀{l:List α} {j:Nat} {a:α},l[j]?=some a→l.set j a=l
 |[],_,_,h=>by simp at h
 |_::_,0,_,h=>by simp at h;subst h;rfl
 |_::l,j+1,a,h=>by rw[List.set_cons_succ,wT (l:=l) (by simpa using h)]
theorem oC:∀{ids:List Nat} {rs:List (List Int)} {j:Nat} {r r':List Int},rs[j]?=some r→r'.length=r.length→eF ids (rs.set j r')=eF ids rs
 |[],_,_,_,_,_,_=>rfl
 |_::_,[],_,_,_,h,_=>by simp at h
 |i::ids,r0::rs,0,r,r',h,hl=>by
  simp at h
  subst h
  show AV.own i r'.length::_=AV.own i r0.length::_
  rw[hl]
 |i::ids,r0::rs,j+1,r,r',h,hl=>by
  show AV.own i r0.length::eF ids (rs.set j r')=AV.own i r0.length::eF ids rs
  rw[oC (by simpa using h) hl]
theorem mH {ids:List Nat} {rs:List (List Int)} (i:Nat) (r:List Int) (h:ids.length=rs.length):eF ids rs++[AV.own i r.length]=eF (ids++[i]) (rs++[r]):=by
 unfold eF;rw[List.zipWith_append h];rfl
theorem oD {ids:List Nat} {rs:List (List Int)} (i:Nat) (r:List Int) (h:ids.length=rs.length):(Ad i r::lE ids rs).Perm (lE (ids++[i]) (rs++[r])):=by
 unfold lE;rw[List.zipWith_append h];exact List.perm_append_comm (l₁:=[_])
theorem Cy (f:ai) (iw ja jb jc jo jt:Nat) {ids:List Nat} {s:GS} (h:ids.length=s.arrays.length) (i m:Nat) (d v:Int) (hv:v=s.arrays.length):(iw,aW.cells 55 (bW f++[.own ja f.vars.length,.own jb f.vars.length,.own jc f.vars.length,.own jo (s.arrays.length+1),.int .i64 s.blk,.int .i64 s.pc,.int .i64 s.en,.int .i64 s.val,.int .i64 s.tr,.own jt s.trace.length,.int .i64 s.st,.int .i64 (s.ck 0),.int .i64 (s.ck 1),.int .i64 (s.ck 2),.int .i64 (s.ck 3),.int .i64 (s.ck 4),.int .i64 (s.ck 5),.int .i64 (s.ck 6),.int .i64 (s.ck 7),.bool s.ended]))::(ja,.grow 1 2 (cI s.ints))::(jb,.grow 1 4 (cB s.bools))::(jc,.grow 1 3 (cI (s.arrs.set d.toNat v)))::(jo,.grow 1 49 (eF ids s.arrays++[.own i m]))::(jt,.grow 1 2 (cI s.trace))::[(0,Aa (lE (ids++[i]) (s.arrays++[List.replicate m 0])))]=wO f iw ja jb jc jo jt (ids++[i]) (stA { s with arrays:=s.arrays++[List.replicate m 0] } d s.arrays.length):=by
 subst hv
 unfold wO wR nU stA
 rw[←mH i (List.replicate m 0) h]
 simp only[qu,List.length_singleton,List.length_replicate]
theorem Cz (f:ai) (iw ja jb jc jo jt:Nat) {ids:List Nat} {s:GS} (a:Int):(iw,aW.cells 55 (bW f++[.own ja f.vars.length,.own jb f.vars.length,.own jc f.vars.length,.own jo s.arrays.length,.int .i64 s.blk,.int .i64 s.pc,.int .i64 s.en,.int .i64 s.val,.int .i64 s.tr,.own jt (s.trace.length+1),.int .i64 s.st,.int .i64 (s.ck 0),.int .i64 (s.ck 1),.int .i64 (s.ck 2),.int .i64 (s.ck 3),.int .i64 (s.ck 4),.int .i64 (s.ck 5),.int .i64 (s.ck 6),.int .i64 (s.ck 7),.bool s.ended]))::(ja,.grow 1 2 (cI s.ints))::(jb,.grow 1 4 (cB s.bools))::(jc,.grow 1 3 (cI s.arrs))::(jo,.grow 1 49 (eF ids s.arrays))::(jt,.grow 1 2 (cI s.trace++[.int .i64 a]))::[(0,Aa (lE ids s.arrays))]=wO f iw ja jb jc jo jt ids { s with trace:=s.trace++[a] }:=by
 unfold wO wR nU
 rw[show cI s.trace++[AV.int .i64 a]=cI (s.trace++[a]) from wq s.trace [a]]
 simp only[qu,List.length_singleton]
set_option maxHeartbeats 16000000 in
theorem pJ (f:ai) (iw ja jb jc jo jt:Nat) (ids:List Nat) (s:GS) (x:aD) (hids:ids.length=s.arrays.length) (hg:bq f s) (hx:dZ f x) (hv:f.vars.length≤1000) (hck:∀i,s.ck i≤1000000000):bC prog E 29 [.po iw 0,.agg (bf x)] (wO f iw ja jb jc jo jt ids s) (fun y O=>∃jo' jt' ids',ids'.length=(bi s x).arrays.length∧y=.tup []∧O=wO f iw ja jb jc jo' jt' ids' (bi s x)):=by
 have hop:=hx.op
 have hl1:=hg.li
 have hl2:=hg.lb
 have hl3:=hg.la
 have hargc:=hx.argc
 obtain ⟨t,ht⟩:∃t,(if 18≤x.op∧x.op≤24 then x.op - 17 else 0)=t:=⟨_,rfl⟩
 have hchk:=gf (E:=E) x.op hop
 rw[ht] at hchk
 refine zr func29 Z (by decide) Z<|ao<|yf (cs:=_) Z Z Z<|z6<|zb<|zo (fun j=>false) (by kernel_rfl) Z (zq (.rest _))<|ad 1 Z (dV jd Z Z7 Z Z)<|ad 2 Z (d8 Zh Z)<|bl 0 Z<|zh (fb) Z<|z6<|ad 3 Z (dj x.op.toNat Ya Zw Z Z (by omega) (lw hop))<|ad 4 Z (dV Zj Z Zg Z Z)<|ad 5 Z (qi (c:=.str _) Zn Z)<|ad 6 Z (yb (v:=.str _) Z)<|dU<|zb<|ao<|aw jd Z Z7 Z Z<|aN Zh Z<|zh (hchk) Z<|ax Z<|z6<|ao<|aa Z<|z8 (q3 Z Z)<|z6<|zp Z (fun c=>?_) (fun c=>?_)
 ·have hc:18≤x.op∧x.op≤24:=by
   refine Classical.byContradiction fun hn=>?_
   rw[if_neg hn] at ht;omega
  rw[if_pos hc] at ht
  refine zb<|yp (γ:=Nat) [0,3,4,5] (fun g=>[]) (fun g=>wO f iw ja jb jc jo jt ids (fc s g)) (fun g=>(g:Int)=t) ?_ (fun _ _ h=>h) ?_
  ·have ht7:t=1∨t=2∨t=3∨t=4∨t=5∨t=6∨t=7:=by omega
   rcases ht7 with h7|h7|h7|h7|h7|h7|h7
   ·have hb:=hck 1
    refine zo (fun j=>Nat.beq j 12) (by kernel_rfl) Z (zq (.rest _))<|ad 0 Z (dh Z)<|ad 1 Z (cG Z)<|ad 2 Z (zf Z)<|ad 3 Z (za j8 Z jz (by decide) Z Z)<|ad 4 Z (za jf Z Z1 (by decide) Z Z)<|ad 5 Z (yi (j:=1) jh j7 Z Z h7 (by decide) Z)<|yj (i:=8) Z (by kernel_rfl) (by kernel_rfl) (by kernel_rfl) (by kernel_rfl) (zf Z)<|yj (i:=9) Z (by kernel_rfl) (by kernel_rfl) (by kernel_rfl) (by kernel_rfl) (za j8 Z jz (by decide) Z Z)<|yj (i:=10) Z (by kernel_rfl) (by kernel_rfl) (by kernel_rfl) (by kernel_rfl) (za jf Z Z1 (by decide) Z Z)<|bl 6 Z<|z8 (zd (c:=.int _ _) je Z ⟨_,.head⟩ Z)<|z6<|ad 7 Z (o7 Z Z)<|ad 11 Z (yi (j:=1) jh j7 Z Z h7 (by decide) Z)<|ya<|yg (i:=12) Z (by kernel_rfl) (by kernel_rfl)<|y8 (l:=[_]) (new:=[_,_,_,_,_,_,_,_,_,_,_,_,_,_,_,_,_,_,_,_,_,_,_]) j7 Z Z Z Z Z Z .head Z Z<|z6<|ye (by kernel_rfl) ?_
    exact ⟨1,f0,trivial,aS,by rw[h7];rfl⟩
   ·have hb:=hck 2
    refine zo (fun j=>Nat.beq j 12) (by kernel_rfl) Z (zq (.rest _))<|ad 0 Z (dh Z)<|ad 1 Z (cG Z)<|ad 2 Z (zf Z)<|ad 3 Z (za j8 Z jz (by decide) Z Z)<|ad 4 Z (za jf Z Z1 (by decide) Z Z)<|ad 5 Z (yi (j:=2) jh j7 Z Z h7 (by decide) Z)<|yj (i:=8) Z (by kernel_rfl) (by kernel_rfl) (by kernel_rfl) (by kernel_rfl) (zf Z)<|yj (i:=9) Z (by kernel_rfl) (by kernel_rfl) (by kernel_rfl) (by kernel_rfl) (za j8 Z jz (by decide) Z Z)<|yj (i:=10) Z (by kernel_rfl) (by kernel_rfl) (by kernel_rfl) (by kernel_rfl) (za jf Z Z1 (by decide) Z Z)<|bl 6 Z<|z8 (zd (c:=.int _ _) je Z ⟨_,.head⟩ Z)<|z6<|ad 7 Z (o7 Z Z)<|ad 11 Z (yi (j:=2) jh j7 Z Z h7 (by decide) Z)<|ya<|yg (i:=12) Z (by kernel_rfl) (by kernel_rfl)<|y8 (l:=[_]) (new:=[_,_,_,_,_,_,_,_,_,_,_,_,_,_,_,_,_,_,_,_,_,_,_]) j7 Z Z Z Z Z Z .head Z Z<|z6<|ye (by kernel_rfl) ?_
    exact ⟨2,f0,trivial,aS,by rw[h7];rfl⟩
   ·have hb:=hck 3
    refine zo (fun j=>Nat.beq j 12) (by kernel_rfl) Z (zq (.rest _))<|ad 0 Z (dh Z)<|ad 1 Z (cG Z)<|ad 2 Z (zf Z)<|ad 3 Z (za j8 Z jz (by decide) Z Z)<|ad 4 Z (za jf Z Z1 (by decide) Z Z)<|ad 5 Z (yi (j:=3) jh j7 Z Z h7 (by decide) Z)<|yj (i:=8) Z (by kernel_rfl) (by kernel_rfl) (by kernel_rfl) (by kernel_rfl) (zf Z)<|yj (i:=9) Z (by kernel_rfl) (by kernel_rfl) (by kernel_rfl) (by kernel_rfl) (za j8 Z jz (by decide) Z Z)<|yj (i:=10) Z (by kernel_rfl) (by kernel_rfl) (by kernel_rfl) (by kernel_rfl) (za jf Z Z1 (by decide) Z Z)<|bl 6 Z<|z8 (zd (c:=.int _ _) je Z ⟨_,.head⟩ Z)<|z6<|ad 7 Z (o7 Z Z)<|ad 11 Z (yi (j:=3) jh j7 Z Z h7 (by decide) Z)<|ya<|yg (i:=12) Z (by kernel_rfl) (by kernel_rfl)<|y8 (l:=[_]) (new:=[_,_,_,_,_,_,_,_,_,_,_,_,_,_,_,_,_,_,_,_,_,_,_]) j7 Z Z Z Z Z Z .head Z Z<|z6<|ye (by kernel_rfl) ?_
    exact ⟨3,f0,trivial,aS,by rw[h7];rfl⟩
   ·have hb:=hck 4
    refine zo (fun j=>Nat.beq j 12) (by kernel_rfl) Z (zq (.rest _))<|ad 0 Z (dh Z)<|ad 1 Z (cG Z)<|ad 2 Z (zf Z)<|ad 3 Z (za j8 Z jz (by decide) Z Z)<|ad 4 Z (za jf Z Z1 (by decide) Z Z)<|ad 5 Z (yi (j:=4) jh j7 Z Z h7 (by decide) Z)<|yj (i:=8) Z (by kernel_rfl) (by kernel_rfl) (by kernel_rfl) (by kernel_rfl) (zf Z)<|yj (i:=9) Z (by kernel_rfl) (by kernel_rfl) (by kernel_rfl) (by kernel_rfl) (za j8 Z jz (by decide) Z Z)<|yj (i:=10) Z (by kernel_rfl) (by kernel_rfl) (by kernel_rfl) (by kernel_rfl) (za jf Z Z1 (by decide) Z Z)<|bl 6 Z<|z8 (zd (c:=.int _ _) je Z ⟨_,.head⟩ Z)<|z6<|ad 7 Z (o7 Z Z)<|ad 11 Z (yi (j:=4) jh j7 Z Z h7 (by decide) Z)<|ya<|yg (i:=12) Z (by kernel_rfl) (by kernel_rfl)<|y8 (l:=[_]) (new:=[_,_,_,_,_,_,_,_,_,_,_,_,_,_,_,_,_,_,_,_,_,_,_]) j7 Z Z Z Z Z Z .head Z Z<|z6<|ye (by kernel_rfl) ?_
    exact ⟨4,f0,trivial,aS,by rw[h7];rfl⟩
   ·have hb:=hck 5
    refine zo (fun j=>Nat.beq j 12) (by kernel_rfl) Z (zq (.rest _))<|ad 0 Z (dh Z)<|ad 1 Z (cG Z)<|ad 2 Z (zf Z)<|ad 3 Z (za j8 Z jz (by decide) Z Z)<|ad 4 Z (za jf Z Z1 (by decide) Z Z)<|ad 5 Z (yi (j:=5) jh j7 Z Z h7 (by decide) Z)<|yj (i:=8) Z (by kernel_rfl) (by kernel_rfl) (by kernel_rfl) (by kernel_rfl) (zf Z)<|yj (i:=9) Z (by kernel_rfl) (by kernel_rfl) (by kernel_rfl) (by kernel_rfl) (za j8 Z jz (by decide) Z Z)<|yj (i:=10) Z (by kernel_rfl) (by kernel_rfl) (by kernel_rfl) (by kernel_rfl) (za jf Z Z1 (by decide) Z Z)<|bl 6 Z<|z8 (zd (c:=.int _ _) je Z ⟨_,.head⟩ Z)<|z6<|ad 7 Z (o7 Z Z)<|ad 11 Z (yi (j:=5) jh j7 Z Z h7 (by decide) Z)<|ya<|yg (i:=12) Z (by kernel_rfl) (by kernel_rfl)<|y8 (l:=[_]) (new:=[_,_,_,_,_,_,_,_,_,_,_,_,_,_,_,_,_,_,_,_,_,_,_]) j7 Z Z Z Z Z Z .head Z Z<|z6<|ye (by kernel_rfl) ?_
    exact ⟨5,f0,trivial,aS,by rw[h7];rfl⟩
   ·have hb:=hck 6
    refine zo (fun j=>Nat.beq j 12) (by kernel_rfl) Z (zq (.rest _))<|ad 0 Z (dh Z)<|ad 1 Z (cG Z)<|ad 2 Z (zf Z)<|ad 3 Z (za j8 Z jz (by decide) Z Z)<|ad 4 Z (za jf Z Z1 (by decide) Z Z)<|ad 5 Z (yi (j:=6) jh j7 Z Z h7 (by decide) Z)<|yj (i:=8) Z (by kernel_rfl) (by kernel_rfl) (by kernel_rfl) (by kernel_rfl) (zf Z)<|yj (i:=9) Z (by kernel_rfl) (by kernel_rfl) (by kernel_rfl) (by kernel_rfl) (za j8 Z jz (by decide) Z Z)<|yj (i:=10) Z (by kernel_rfl) (by kernel_rfl) (by kernel_rfl) (by kernel_rfl) (za jf Z Z1 (by decide) Z Z)<|bl 6 Z<|z8 (zd (c:=.int _ _) je Z ⟨_,.head⟩ Z)<|z6<|ad 7 Z (o7 Z Z)<|ad 11 Z (yi (j:=6) jh j7 Z Z h7 (by decide) Z)<|ya<|yg (i:=12) Z (by kernel_rfl) (by kernel_rfl)<|y8 (l:=[_]) (new:=[_,_,_,_,_,_,_,_,_,_,_,_,_,_,_,_,_,_,_,_,_,_,_]) j7 Z Z Z Z Z Z .head Z Z<|z6<|ye (by kernel_rfl) ?_
    exact ⟨6,f0,trivial,aS,by rw[h7];rfl⟩
   ·have hb:=hck 7
    refine zo (fun j=>Nat.beq j 12) (by kernel_rfl) Z (zq (.rest _))<|ad 0 Z (dh Z)<|ad 1 Z (cG Z)<|ad 2 Z (zf Z)<|ad 3 Z (za j8 Z jz (by decide) Z Z)<|ad 4 Z (za jf Z Z1 (by decide) Z Z)<|ad 5 Z (yi (j:=7) jh j7 Z Z h7 (by decide) Z)<|yj (i:=8) Z (by kernel_rfl) (by kernel_rfl) (by kernel_rfl) (by kernel_rfl) (zf Z)<|yj (i:=9) Z (by kernel_rfl) (by kernel_rfl) (by kernel_rfl) (by kernel_rfl) (za j8 Z jz (by decide) Z Z)<|yj (i:=10) Z (by kernel_rfl) (by kernel_rfl) (by kernel_rfl) (by kernel_rfl) (za jf Z Z1 (by decide) Z Z)<|bl 6 Z<|z8 (zd (c:=.int _ _) je Z ⟨_,.head⟩ Z)<|z6<|ad 7 Z (o7 Z Z)<|ad 11 Z (yi (j:=7) jh j7 Z Z h7 (by decide) Z)<|ya<|yg (i:=12) Z (by kernel_rfl) (by kernel_rfl)<|y8 (l:=[_]) (new:=[_,_,_,_,_,_,_,_,_,_,_,_,_,_,_,_,_,_,_,_,_,_,_]) j7 Z Z Z Z Z Z .head Z Z<|z6<|ye (by kernel_rfl) ?_
    exact ⟨7,f0,trivial,aS,by rw[h7];rfl⟩
  ·rintro g hgt
   have hgn:(x.op - 17).toNat=g:=by omega
   have hal:0<x.args.length:=by
    obtain ⟨j,hj⟩:∃j:Nat,x.op=(j:Int):=⟨x.op.toNat,by omega⟩
    rw[hargc,hj,Int.toNat_natCast]
    have:j=18∨j=19∨j=20∨j=21∨j=22∨j=23∨j=24:=by omega
    rcases this with h|h|h|h|h|h|h<;>(rw[h];decide)
   have ho:pI f x.op x.args:=⟨hc.1,hc.2,hal,fun v hv=>fy (hx.args v hv)⟩
   refine zb<|ao<|bd Z<|z8 (yh (v:=.str _) Z)<|aw jd Z jn Z Z<|aT js Z<|yr Z (zq (.l (.l (.l (.l (.l (.l (.l (.rest _))))))))) (no f iw ja jb jc jo jt ids (fc s g) x.op x.args hids (hg.bump g) ho) ?_
   rintro r42 O42 ⟨rfl,rfl⟩
   refine aE Z<|z6<|zw Z (fun cp=>?_) (fun cp=>?_)
   ·have hp:¬eu s x.op x.args=true:=fun h=>by have h2:eu (fc s g) x.op x.args=true:=h;rw[h2] at cp;cases cp
    have hI:bi s x=qP (fc s g) t:=by unfold bi;rw[if_pos hc,if_neg hp,hgn,ht]
    refine ao<|bd Z<|aa Z<|z8 (zf Z)<|z8 (za j8 Z jz (by decide) Z Z)<|z8 (za jf Z sizeOf51 (by decide) Z Z)<|y8 (l:=[_]) (new:=[_,_,_,_,_,_,_,_,_,_,_,_,_,_,_,_,_,_,_,_,_,_,_]) sizeOf51 Z Z Z Z Z Z .head Z Z<|z6<|bj<|bd Z<|yr Z (zq (.l (.l (.l (.l (.l (.l (.l (.rest _))))))))) (cP f iw ja jb jc jo jt ids { fc s g with tr:=t } 1) ?_
    rintro r50 O50 ⟨rfl,rfl⟩
    refine z6<|ze<|yw ?_
    exact ⟨jo,jt,ids,by rw[hI];exact hids,rfl,by rw[hI];rfl⟩
   ·have hp:eu s x.op x.args=true:=by cases h:eu s x.op x.args;have h2:eu (fc s g) x.op x.args=false:=h;rw[h2] at cp;cases cp;rfl
    have hI:bi s x=fc s g:=by unfold bi;rw[if_pos hc,if_pos hp,hgn]
    refine zg<|ze<|yw ?_
    exact ⟨jo,jt,ids,by rw[hI];exact hids,rfl,by rw[hI];rfl⟩
 ·have hc:¬(18≤x.op∧x.op≤24):=fun h=>by rw[if_pos h] at ht;omega
  refine zg<|ao<|aw jd Z jn Z Z<|aT js Z<|z8 (BS Z)<|z6<|ao<|ax Z<|ax Z<|z6<|ao<|ab Z<|ab Z<|ax Z<|z6<|zb<|ao<|z8 (eR Z)<|aj j6 Z<|z8 (q3 Z Z)<|z6<|yp (γ:=Int × Bool × Int) [0,3,4,6,8,10] (fun u=>[(7,.int .i64 u.1),(9,.bool u.2.1),(11,.int .i64 u.2.2)]) (fun u=>wO f iw ja jb jc jo jt ids s) (fun u=>0<x.args.length→u=(aG s x,pG s x,rG s x)) ?_ (fun _ _ h=>h) ?_
  ·refine zp Z (fun ca=>?_) (fun ca=>?_)
   ·have ca:0<x.args.length:=by omega
    obtain ⟨q0,r0⟩:=hx.a0 ca
    refine zo (fun j=>false) (by kernel_rfl) Z (zq (.r (.r (.r (.r (.rest _))))))<|ad 0 Z (dh Z)<|ad 1 Z (zf Z)<|ad 2 Z (za j8 Z Z3 (by decide) Z Z)<|ad 3 Z (zd (c:=.own _ _) Zc Z ⟨_,.head⟩ Z)<|ad 4 Z (eR Z)<|ad 5 Z (dj 0 j6 j7 Z Z Z (me ca))<|ad 6 Z (d8 je Z)<|ad 7 Z (ym (j:=(vW x).toNat) jg Z0 Z Z (w0 r0).symm ⟨_,.t1⟩ ((aO _).trans hl1) (by omega))<|ad 8 Z (qh (j:=(vW x).toNat) Zz Z ⟨_,.t1⟩ (dO (by omega) r0))<|ad 9 Z (dh Z)<|ad 10 Z (zf Z)<|ad 11 Z (za j8 Z Y5 (by decide) Z Z)<|ad 12 Z (zd (c:=.own _ _) Yc Z ⟨_,.head⟩ Z)<|ad 13 Z (eR Z)<|ad 14 Z (dj 0 j6 j7 Z Z Z (me ca))<|ad 15 Z (d8 je Z)<|ad 16 Z (ym (j:=(vW x).toNat) jk Z8 Z Z (w0 r0).symm ⟨_,.t2⟩ ((bE _).trans hl2) (by omega))<|ad 17 Z (Gv.loadB (j:=(vW x).toNat) Ye Z ⟨_,.t2⟩ (nq (by omega) r0))<|ad 18 Z (dh Z)<|ad 19 Z (zf Z)<|ad 20 Z (za j8 Z jn (by decide) Z Z)<|ad 21 Z (zd (c:=.own _ _) js Z ⟨_,.head⟩ Z)<|ad 22 Z (eR Z)<|ad 23 Z (dj 0 j6 j7 Z Z Z (me ca))<|ad 24 Z (d8 je Z)<|ad 25 Z (ym (j:=(vW x).toNat) j6 j7 Z Z (w0 r0).symm ⟨_,.t3⟩ ((aO _).trans hl3) (by omega))<|ad 26 Z (qh (j:=(vW x).toNat) je Z ⟨_,.t3⟩ (dO (by omega) r0))<|ad 27 Z (yR Z)<|ad 28 Z (uQ Z)<|ad 29 Z (yR Z)<|dU ?_
    exact ⟨(aG s x,pG s x,rG s x),oY,gB,aS,fun _=>rfl⟩
   ·refine zg ?_
    exact ⟨(0,false,-1),oY,gB,aS,fun h=>absurd h (by omega)⟩
  ·rintro ⟨a,p,r⟩ hu
   refine zb<|ao<|z8 (eR Z)<|aj j6 Z<|z8 (q3 Z Z)<|z6<|yp (γ:=Int × Bool) [0,3,4,6,7,9,11] (fun u=>[(8,.int .i64 u.1),(10,.bool u.2)]) (fun u=>wO f iw ja jb jc jo jt ids s) (fun u=>1<x.args.length→u=(bG s x,qG s x)) ?_ (fun _ _ h=>h) ?_
   ·refine zp Z (fun ca=>?_) (fun ca=>?_)
    ·have ca:1<x.args.length:=by omega
     obtain ⟨q0,r0⟩:=hx.a1 ca
     refine zo (fun j=>false) (by kernel_rfl) Z (zq (.r (.r (.r (.rest _)))))<|ad 0 Z (dh Z)<|ad 1 Z (zf Z)<|ad 2 Z (za j8 Z Z3 (by decide) Z Z)<|ad 3 Z (zd (c:=.own _ _) Zc Z ⟨_,.head⟩ Z)<|ad 4 Z (eR Z)<|ad 5 Z (dj 1 j6 j7 Z Z Z (me ca))<|ad 6 Z (d8 je Z)<|ad 7 Z (ym (j:=(zG x).toNat) jg Z0 Z Z (w0 r0).symm ⟨_,.t1⟩ ((aO _).trans hl1) (by omega))<|ad 8 Z (qh (j:=(zG x).toNat) Zz Z ⟨_,.t1⟩ (dO (by omega) r0))<|ad 9 Z (dh Z)<|ad 10 Z (zf Z)<|ad 11 Z (za j8 Z Y5 (by decide) Z Z)<|ad 12 Z (zd (c:=.own _ _) Yc Z ⟨_,.head⟩ Z)<|ad 13 Z (eR Z)<|ad 14 Z (dj 1 j6 j7 Z Z Z (me ca))<|ad 15 Z (d8 je Z)<|ad 16 Z (ym (j:=(zG x).toNat) jk Z8 Z Z (w0 r0).symm ⟨_,.t2⟩ ((bE _).trans hl2) (by omega))<|ad 17 Z (Gv.loadB (j:=(zG x).toNat) Ye Z ⟨_,.t2⟩ (nq (by omega) r0))<|ad 18 Z (yR Z)<|ad 19 Z (uQ Z)<|dU ?_
     exact ⟨(bG s x,qG s x),jI,dX,aS,fun _=>rfl⟩
    ·refine zg ?_
     exact ⟨(0,false),jI,dX,aS,fun h=>absurd h (by omega)⟩
   ·rintro ⟨b,q⟩ hw
    refine ao<|aw jd Z j7 Z Z<|aN je Z<|ax Z<|z6<|ao<|z8 (yh (v:=.str _) Z)<|z6<|zk<|ao<|z8 (yx Z Z)<|ab Z<|z6<|zp Z (fun c0=>?_) (fun c0=>?_)
    ·have e:x.op=0:=(aK hop 0 (by decide) rfl).1 c0
     obtain ⟨d1,d0⟩:=hx.made (by rw[e];decide)
     have hI:bi s x=stI s x.dst x.num:=by rw[bK hc];unfold doG;simp[e]
     refine zo (fun j=>Nat.beq j 8) (by kernel_rfl) Z (zq (.r (.rest _)))<|ad 0 Z (dh Z)<|ad 1 Z (zf Z)<|ad 2 Z (za j8 Z Z3 (by decide) Z Z)<|ad 3 Z (zd (c:=.own _ _) Zc Z ⟨_,.head⟩ Z)<|ad 4 Z (cG Z)<|ad 5 Z (dV jd Z Z0 Z Z)<|ad 6 Z (d8 Zz Z)<|bl 7 Z<|z8 (ym (j:=x.dst.toNat) jg Z0 Z Z (w0 d0).symm ⟨_,.head⟩ ((aO _).trans hl1) (by omega))<|z6<|ya<|yg (i:=8) Z (by kernel_rfl) (by kernel_rfl)<|q7 (j:=x.dst.toNat) Z0 Z Z .t1 (by first|omega|(simp;omega))<|z6<|ye (by kernel_rfl)<|yw ?_
     exact ⟨jo,jt,ids,by rw[hI];exact hids,rfl,by rw[hI];rfl⟩
    ·have n0:¬x.op=0:=fun e=>c0 ((aK hop 0 (by decide) rfl).2 e)
     refine zb<|ao<|z8 (yx Z Z)<|ab Z<|z6<|yp (γ:=Bool) [0,3,4,6,7,8,9,10,11,12,106] (fun z=>[(117,.bool z)]) (fun z=>wO f iw ja jb jc jo jt ids s) (fun z=>z=decide (x.op=1∨x.op=25∨x.op=26)) ?_ (fun _ _ h=>h) ?_
     ·refine zp Z (fun c1=>?_) (fun c1=>?_)
      ·have e:x.op=1:=(aK hop 1 (by decide) rfl).1 c1
       refine zg ?_
       exact ⟨_,jJ,aY,aS,by rw[qx c1,e];rfl⟩
      ·have n1:¬x.op=1:=fun e=>c1 ((aK hop 1 (by decide) rfl).2 e)
       refine ao<|z8 (yx Z Z)<|ab Z<|z6<|zp Z (fun c25=>?_) (fun c25=>?_)
       ·have e:x.op=25:=(aK hop 25 (by decide) rfl).1 c25
        refine zg ?_
        exact ⟨_,jJ,aY,aS,by rw[qx c25,e];rfl⟩
       ·have n25:¬x.op=25:=fun e=>c25 ((aK hop 25 (by decide) rfl).2 e)
        refine bj<|z8 (yx Z Z)<|ab Z<|z6 ?_
        exact ⟨_,jJ,aY,aS,by rw[decide_eq_decide];exact ⟨fun h=>.inr (.inr ((aK hop 26 (by decide) rfl).1 h)),fun h=>(aK hop 26 (by decide) rfl).2 ((h.resolve_left n1).resolve_left n25)⟩⟩
     ·rintro z hz
      refine zw Z (fun cz=>?_) (fun cz=>?_)
      ·have e:x.op=1∨x.op=25∨x.op=26:=of_decide_eq_true (hz.symm.trans cz)
       obtain ⟨d1,d0⟩:=hx.made (by rcases e with e|e|e<;>(rw[e];decide))
       obtain ⟨rfl,rfl,rfl⟩:a=aG s x∧p=pG s x∧r=rG s x:=by have:=hu (by rcases e with e|e|e<;>(rw[hargc,e];decide));simpa using this
       have hI:bi s x=stA (stB (stI s x.dst (aG s x)) x.dst (pG s x)) x.dst (rG s x):=by rw[bK hc];unfold doG;rw[if_neg n0,if_pos e]
       refine b9.regionDrawR (by kernel_rfl) Z (zq (.r (.l (.l (.l (.l (.l (.l (.rest _)))))))))<|zu (i:=0) Z (by kernel_rfl) (by kernel_rfl) (by kernel_rfl) (dh Z)<|zu (i:=1) Z (by kernel_rfl) (by kernel_rfl) (by kernel_rfl) (zf Z)<|zu (i:=2) Z (by kernel_rfl) (by kernel_rfl) (by kernel_rfl) (za j8 Z Z3 (by decide) Z Z)<|zu (i:=3) Z (by kernel_rfl) (by kernel_rfl) (by kernel_rfl) (zd (c:=.own _ _) Zc Z ⟨_,.head⟩ Z)<|zu (i:=4) Z (by kernel_rfl) (by kernel_rfl) (by kernel_rfl) (cG Z)<|zu (i:=5) Z (by kernel_rfl) (by kernel_rfl) (by kernel_rfl) (dh Z)<|zu (i:=6) Z (by kernel_rfl) (by kernel_rfl) (by kernel_rfl) (zf Z)<|zu (i:=7) Z (by kernel_rfl) (by kernel_rfl) (by kernel_rfl) (za j8 Z Y5 (by decide) Z Z)<|zu (i:=8) Z (by kernel_rfl) (by kernel_rfl) (by kernel_rfl) (zd (c:=.own _ _) Yc Z ⟨_,.head⟩ Z)<|zu (i:=9) Z (by kernel_rfl) (by kernel_rfl) (by kernel_rfl) (cG Z)<|zu (i:=10) Z (by kernel_rfl) (by kernel_rfl) (by kernel_rfl) (dh Z)<|zu (i:=11) Z (by kernel_rfl) (by kernel_rfl) (by kernel_rfl) (zf Z)<|zu (i:=12) Z (by kernel_rfl) (by kernel_rfl) (by kernel_rfl) (za j8 Z jn (by decide) Z Z)<|zu (i:=13) Z (by kernel_rfl) (by kernel_rfl) (by kernel_rfl) (zd (c:=.own _ _) js Z ⟨_,.head⟩ Z)<|zu (i:=14) Z (by kernel_rfl) (by kernel_rfl) (by kernel_rfl) (cG Z)<|zu (i:=15) Z (by kernel_rfl) (by kernel_rfl) (by kernel_rfl) (cG Z)<|zu (i:=16) Z (by kernel_rfl) (by kernel_rfl) (by kernel_rfl) (yQ Z)<|zu (i:=17) Z (by kernel_rfl) (by kernel_rfl) (by kernel_rfl) (cG Z)<|qm (i:=18) Z (by kernel_rfl)<|z8 (ym (j:=x.dst.toNat) jg Z0 Z Z (w0 d0).symm ⟨_,.head⟩ ((aO _).trans hl1) (by omega))<|z6<|qm (i:=19) Z (by kernel_rfl)<|q7 (j:=x.dst.toNat) Z0 Z Z .head (by first|omega|(simp;omega))<|z6<|qm (i:=20) Z (by kernel_rfl)<|z8 (ym (j:=x.dst.toNat) jk Z8 Z Z (w0 d0).symm ⟨_,.t1⟩ ((bE _).trans hl2) (by omega))<|z6<|qm (i:=21) Z (by kernel_rfl)<|ak.storeB (j:=x.dst.toNat) Z8 Z Z .t1 (by first|omega|(simp;omega))<|z6<|qm (i:=22) Z (by kernel_rfl)<|z8 (ym (j:=x.dst.toNat) j6 j7 Z Z (w0 d0).symm ⟨_,.t2⟩ ((aO _).trans hl3) (by omega))<|z6<|qm (i:=23) Z (by kernel_rfl)<|q7 (j:=x.dst.toNat) j7 Z Z .t2 (by first|omega|(simp;omega))<|z6<|fg.done (by kernel_rfl)<|yw ?_
       exact ⟨jo,jt,ids,by rw[hI];exact hids,rfl,by rw[hI];rfl⟩
      ·have n1:¬(x.op=1∨x.op=25∨x.op=26):=of_decide_eq_false (hz.symm.trans cz)
       refine zb<|ao<|z8 (yx Z Z)<|ab Z<|z6<|yp (γ:=Bool) [0,3,4,6,7,8,9,10,11,12,106] (fun z=>[(142,.bool z)]) (fun z=>wO f iw ja jb jc jo jt ids s) (fun z=>z=decide (x.op=2∨x.op=3∨x.op=4)) ?_ (fun _ _ h=>h) ?_
       ·refine zp Z (fun c2=>?_) (fun c2=>?_)
        ·have e:x.op=2:=(aK hop 2 (by decide) rfl).1 c2
         refine zg ?_
         exact ⟨_,jJ,aY,aS,by rw[qx c2,e];rfl⟩
        ·have n2:¬x.op=2:=fun e=>c2 ((aK hop 2 (by decide) rfl).2 e)
         refine ao<|z8 (yx Z Z)<|ab Z<|z6<|zp Z (fun c3=>?_) (fun c3=>?_)
         ·have e:x.op=3:=(aK hop 3 (by decide) rfl).1 c3
          refine zg ?_
          exact ⟨_,jJ,aY,aS,by rw[qx c3,e];rfl⟩
         ·have n3:¬x.op=3:=fun e=>c3 ((aK hop 3 (by decide) rfl).2 e)
          refine bj<|z8 (yx Z Z)<|ab Z<|z6 ?_
          exact ⟨_,jJ,aY,aS,by rw[decide_eq_decide];exact ⟨fun h=>.inr (.inr ((aK hop 4 (by decide) rfl).1 h)),fun h=>(aK hop 4 (by decide) rfl).2 ((h.resolve_left n2).resolve_left n3)⟩⟩
       ·rintro z hz2
        refine zw Z (fun cz2=>?_) (fun cz2=>?_)
        ·have e:x.op=2∨x.op=3∨x.op=4:=of_decide_eq_true (hz2.symm.trans cz2)
         obtain ⟨d1,d0⟩:=hx.made (by rcases e with e|e|e<;>(rw[e];decide))
         obtain ⟨rfl,_,_⟩:a=aG s x∧p=pG s x∧r=rG s x:=by have:=hu (by rcases e with e|e|e<;>(rw[hargc,e];decide));simpa using this
         obtain ⟨rfl,_⟩:b=bG s x∧q=qG s x:=by have:=hw (by rcases e with e|e|e<;>(rw[hargc,e];decide));simpa using this
         obtain ⟨k,hk,hxk⟩:∃k:Nat,k≤2∧x.op - 2=(k:Int):=⟨(x.op - 2).toNat,by omega,by omega⟩
         have hI:bi s x=stI s x.dst (IntKind.i64.wrap (nT k (aG s x) (bG s x))):=by
          rw[bK hc];unfold doG;rw[if_neg n0,if_neg n1]
          have:k=0∨k=1∨k=2:=by omega
          rcases this with rfl|rfl|rfl
          ·rw[if_pos (by omega)]
          ·rw[if_neg (by omega),if_pos (by omega)]
          ·rw[if_neg (by omega),if_neg (by omega),if_pos (by omega)]
         have hwr:=Dx (E:=E) hk (x:=aG s x) (y:=bG s x)
         rw[←hxk] at hwr
         refine zo (fun j=>Nat.beq j 12) (by kernel_rfl) Z (zq (.r (.rest _)))<|ad 0 Z (dh Z)<|ad 1 Z (zf Z)<|ad 2 Z (za j8 Z Z3 (by decide) Z Z)<|ad 3 Z (zd (c:=.own _ _) Zc Z ⟨_,.head⟩ Z)<|ad 4 Z (cG Z)<|ad 5 Z (dV jd Z Z7 Z Z)<|ad 6 Z (d8 Zh Z)<|ad 7 Z (qn Z Z (by unfold ft;omega))<|ad 8 Z (cG Z)<|ad 9 Z (cG Z)<|bl 10 Z<|zh (hwr) Z<|z6<|bl 11 Z<|z8 (ym (j:=x.dst.toNat) jg Z0 Z Z (w0 d0).symm ⟨_,.head⟩ ((aO _).trans hl1) (by omega))<|z6<|ya<|yg (i:=12) Z (by kernel_rfl) (by kernel_rfl)<|q7 (j:=x.dst.toNat) Z0 Z Z .t1 (by first|omega|(simp;omega))<|z6<|ye (by kernel_rfl)<|yw ?_
         exact ⟨jo,jt,ids,by rw[hI];exact hids,rfl,by rw[hI];rfl⟩
        ·have n2:¬(x.op=2∨x.op=3∨x.op=4):=of_decide_eq_false (hz2.symm.trans cz2)
         refine zb<|ao<|z8 (yx Z Z)<|ab Z<|z6<|yp (γ:=Bool) [0,4,6,7,8,9,10,11,12,106] (fun z=>[(158,.bool z)]) (fun z=>wO f iw ja jb jc jo jt ids s) (fun z=>z=decide (x.op=5∨x.op=6)) ?_ (fun _ _ h=>h) ?_
         ·refine zp Z (fun c5=>?_) (fun c5=>?_)
          ·have e:x.op=5:=(aK hop 5 (by decide) rfl).1 c5
           refine zg ?_
           exact ⟨_,⟨rfl,rfl,rfl,rfl,rfl,rfl,rfl,rfl,rfl,rfl,trivial⟩,aY,aS,by rw[qx c5,e];rfl⟩
          ·have n5:¬x.op=5:=fun e=>c5 ((aK hop 5 (by decide) rfl).2 e)
           refine bj<|z8 (yx Z Z)<|ab Z<|z6 ?_
           exact ⟨_,⟨rfl,rfl,rfl,rfl,rfl,rfl,rfl,rfl,rfl,rfl,trivial⟩,aY,aS,by rw[decide_eq_decide];exact ⟨fun h=>.inr ((aK hop 6 (by decide) rfl).1 h),fun h=>(aK hop 6 (by decide) rfl).2 (h.resolve_left n5)⟩⟩
         ·rintro z hz3
          refine zw Z (fun cz3=>?_) (fun cz3=>?_)
          ·have e:x.op=5∨x.op=6:=of_decide_eq_true (hz3.symm.trans cz3)
           obtain ⟨d1,d0⟩:=hx.made (by rcases e with e|e<;>(rw[e];decide))
           obtain ⟨rfl,_,_⟩:a=aG s x∧p=pG s x∧r=rG s x:=by have:=hu (by rcases e with e|e<;>(rw[hargc,e];decide));simpa using this
           obtain ⟨rfl,_⟩:b=bG s x∧q=qG s x:=by have:=hw (by rcases e with e|e<;>(rw[hargc,e];decide));simpa using this
           have hD:doG s x=if bG s x=0 then cu s 2 else stI s x.dst (if x.op=6 then va (aG s x) (bG s x) else zI (aG s x) (bG s x)):=by
            rcases e with e|e<;>(unfold doG;simp[e])
           refine zb<|ao<|aa Z<|az Z Z<|z6<|zp Z (fun c0b=>?_) (fun c0b=>?_)
           ·have hI:bi s x=cu s 2:=by rw[bK hc,hD,if_pos (by omega)]
            refine ao<|bd Z<|yr Z (zq (.l (.l (.l (.l (.l (.l (.l (.rest _))))))))) (cP f iw ja jb jc jo jt ids s 2) ?_
            rintro r164 O164 ⟨rfl,rfl⟩
            refine z6<|ze<|yw ?_
            exact ⟨jo,jt,ids,by rw[hI];exact hids,rfl,by rw[hI];rfl⟩
           ·have hb0:¬bG s x=0:=by omega
            have hI:bi s x=stI s x.dst (if x.op=6 then va (aG s x) (bG s x) else zI (aG s x) (bG s x)):=by rw[bK hc,hD,if_neg hb0]
            refine zg<|ao<|aa Z<|aa Z<|zh (Dy hb0) Z<|z8 (Eo Z)<|z8 (BT Z Z)<|z8 (BT Z Z)<|ax Z<|ax Z<|z6<|zb<|ao<|z8 (yh (v:=.str _) Z)<|z8 (yx Z Z)<|z6<|yp (γ:=Int) [0,12] (fun v=>[(13,.int .i64 v)]) (fun v=>wO f iw ja jb jc jo jt ids s) (fun v=>v=if x.op=6 then va (aG s x) (bG s x) else zI (aG s x) (bG s x)) ?_ (fun _ _ h=>h) ?_
            ·refine zp Z (fun c6=>?_) (fun c6=>?_)
             ·have e6:x.op=6:=(aK hop 6 (by decide) rfl).1 c6
              refine bj<|aa Z<|ax Z<|z6 ?_
              exact ⟨_,dX,aY,aS,by rw[if_pos e6];rfl⟩
             ·have e6:¬x.op=6:=fun e=>c6 ((aK hop 6 (by decide) rfl).2 e)
              refine zg ?_
              exact ⟨_,dX,aY,aS,by rw[if_neg e6];rfl⟩
            ·rintro v hv3
             rw[←hv3] at hI
             refine bj<|bd Z<|z8 (zf Z)<|z8 (za j8 Z Z3 (by decide) Z Z)<|z8 (zd (c:=.own _ _) Zc Z ⟨_,.head⟩ Z)<|aa Z<|aa Z<|z8 (ym (j:=x.dst.toNat) jg Z0 Z Z (w0 d0).symm ⟨_,.t1⟩ ((aO _).trans hl1) (by omega))<|q7 (j:=x.dst.toNat) Z0 Z Z .t1 (by first|omega|(simp;omega))<|z6<|yw ?_
             exact ⟨jo,jt,ids,by rw[hI];exact hids,rfl,by rw[hI];rfl⟩
          ·have n5:¬(x.op=5∨x.op=6):=of_decide_eq_false (hz3.symm.trans cz3)
           refine ao<|z8 (yx Z Z)<|ab Z<|z6<|zp Z (fun c7=>?_) (fun c7=>?_)
           ·have e:x.op=7:=(aK hop 7 (by decide) rfl).1 c7
            obtain ⟨d1,d0⟩:=hx.made (by rw[e];decide)
            obtain ⟨rfl,_,_⟩:a=aG s x∧p=pG s x∧r=rG s x:=by have:=hu (by rw[hargc,e];decide);simpa using this
            obtain ⟨rfl,_⟩:b=bG s x∧q=qG s x:=by have:=hw (by rw[hargc,e];decide);simpa using this
            have hI:bi s x=stB s x.dst (decide (aG s x=bG s x)):=by rw[bK hc];unfold doG;simp[e]
            refine bj<|bd Z<|z8 (zf Z)<|z8 (za j8 Z Y5 (by decide) Z Z)<|z8 (zd (c:=.own _ _) Yc Z ⟨_,.head⟩ Z)<|aa Z<|aa Z<|aa Z<|az Z Z<|z8 (ym (j:=x.dst.toNat) jk Z8 Z Z (w0 d0).symm ⟨_,.t2⟩ ((bE _).trans hl2) (by omega))<|ak.storeB (j:=x.dst.toNat) Z8 Z Z .t2 (by first|omega|(simp;omega))<|z6<|yw ?_
            exact ⟨jo,jt,ids,by rw[hI];exact hids,rfl,by rw[hI];rfl⟩
           ·have n7:¬x.op=7:=fun e=>c7 ((aK hop 7 (by decide) rfl).2 e)
            refine ao<|z8 (yx Z Z)<|ab Z<|z6<|zp Z (fun c8=>?_) (fun c8=>?_)
            ·have e:x.op=8:=(aK hop 8 (by decide) rfl).1 c8
             obtain ⟨d1,d0⟩:=hx.made (by rw[e];decide)
             obtain ⟨rfl,_,_⟩:a=aG s x∧p=pG s x∧r=rG s x:=by have:=hu (by rw[hargc,e];decide);simpa using this
             obtain ⟨rfl,_⟩:b=bG s x∧q=qG s x:=by have:=hw (by rw[hargc,e];decide);simpa using this
             have hI:bi s x=stB s x.dst (decide (aG s x<bG s x)):=by rw[bK hc];unfold doG;simp[e]
             refine bj<|bd Z<|z8 (zf Z)<|z8 (za j8 Z Y5 (by decide) Z Z)<|z8 (zd (c:=.own _ _) Yc Z ⟨_,.head⟩ Z)<|aa Z<|aa Z<|aa Z<|ay Z Z<|z8 (ym (j:=x.dst.toNat) jk Z8 Z Z (w0 d0).symm ⟨_,.t2⟩ ((bE _).trans hl2) (by omega))<|ak.storeB (j:=x.dst.toNat) Z8 Z Z .t2 (by first|omega|(simp;omega))<|z6<|yw ?_
             exact ⟨jo,jt,ids,by rw[hI];exact hids,rfl,by rw[hI];rfl⟩
            ·have n8:¬x.op=8:=fun e=>c8 ((aK hop 8 (by decide) rfl).2 e)
             refine ao<|z8 (yx Z Z)<|ab Z<|z6<|zp Z (fun c9=>?_) (fun c9=>?_)
             ·have e:x.op=9:=(aK hop 9 (by decide) rfl).1 c9
              obtain ⟨d1,d0⟩:=hx.made (by rw[e];decide)
              obtain ⟨rfl,_,_⟩:a=aG s x∧p=pG s x∧r=rG s x:=by have:=hu (by rw[hargc,e];decide);simpa using this
              obtain ⟨rfl,_⟩:b=bG s x∧q=qG s x:=by have:=hw (by rw[hargc,e];decide);simpa using this
              have hI:bi s x=stB s x.dst (decide (aG s x≤bG s x)):=by rw[bK hc];unfold doG;simp[e]
              refine bj<|bd Z<|z8 (zf Z)<|z8 (za j8 Z Y5 (by decide) Z Z)<|z8 (zd (c:=.own _ _) Yc Z ⟨_,.head⟩ Z)<|aa Z<|aa Z<|aa Z<|z8 (Gv.leq Z Z)<|z8 (ym (j:=x.dst.toNat) jk Z8 Z Z (w0 d0).symm ⟨_,.t2⟩ ((bE _).trans hl2) (by omega))<|ak.storeB (j:=x.dst.toNat) Z8 Z Z .t2 (by first|omega|(simp;omega))<|z6<|yw ?_
              exact ⟨jo,jt,ids,by rw[hI];exact hids,rfl,by rw[hI];rfl⟩
             ·have n9:¬x.op=9:=fun e=>c9 ((aK hop 9 (by decide) rfl).2 e)
              refine ao<|z8 (yx Z Z)<|ab Z<|z6<|zp Z (fun c10=>?_) (fun c10=>?_)
              ·have e:x.op=10:=(aK hop 10 (by decide) rfl).1 c10
               obtain ⟨d1,d0⟩:=hx.made (by rw[e];decide)
               obtain ⟨_,rfl,_⟩:a=aG s x∧p=pG s x∧r=rG s x:=by have:=hu (by rw[hargc,e];decide);simpa using this
               have hI:bi s x=stB s x.dst (!pG s x):=by rw[bK hc];unfold doG;simp[e]
               refine bj<|bd Z<|z8 (zf Z)<|z8 (za j8 Z Y5 (by decide) Z Z)<|z8 (zd (c:=.own _ _) Yc Z ⟨_,.head⟩ Z)<|aa Z<|ah Z<|aE Z<|z8 (ym (j:=x.dst.toNat) jk Z8 Z Z (w0 d0).symm ⟨_,.t2⟩ ((bE _).trans hl2) (by omega))<|ak.storeB (j:=x.dst.toNat) Z8 Z Z .t2 (by first|omega|(simp;omega))<|z6<|yw ?_
               exact ⟨jo,jt,ids,by rw[hI];exact hids,rfl,by rw[hI];rfl⟩
              ·have n10:¬x.op=10:=fun e=>c10 ((aK hop 10 (by decide) rfl).2 e)
               refine ao<|z8 (yx Z Z)<|ab Z<|z6<|zp Z (fun c11=>?_) (fun c11=>?_)
               ·have e:x.op=11:=(aK hop 11 (by decide) rfl).1 c11
                obtain ⟨d1,d0⟩:=hx.made (by rw[e];decide)
                obtain ⟨_,rfl,_⟩:a=aG s x∧p=pG s x∧r=rG s x:=by have:=hu (by rw[hargc,e];decide);simpa using this
                obtain ⟨_,rfl⟩:b=bG s x∧q=qG s x:=by have:=hw (by rw[hargc,e];decide);simpa using this
                have hI:bi s x=stB s x.dst (pG s x&&qG s x):=by rw[bK hc];unfold doG;simp[e]
                refine bj<|bd Z<|z8 (zf Z)<|z8 (za j8 Z Y5 (by decide) Z Z)<|z8 (zd (c:=.own _ _) Yc Z ⟨_,.head⟩ Z)<|aa Z<|ah Z<|ah Z<|zm (s:=232) Z (fun cp=>?_) (fun cp=>?_)
                ·have cp:pG s x=true:=cp
                 rw[cp,Bool.true_and] at hI
                 refine z7 Z Z cp<|ah Z<|ap Z cp Z<|z8 (ym (j:=x.dst.toNat) jk Z8 Z Z (w0 d0).symm ⟨_,.t2⟩ ((bE _).trans hl2) (by omega))<|ak.storeB (j:=x.dst.toNat) Z8 Z Z .t2 (by first|omega|(simp;omega))<|z6<|yw ?_
                 exact ⟨jo,jt,ids,by rw[hI];exact hids,rfl,by rw[hI];rfl⟩
                ·have cp:pG s x=false:=cp
                 rw[cp,Bool.false_and] at hI
                 refine z2 Z Z cp<|aq Z cp Z<|z8 (ym (j:=x.dst.toNat) jk Z8 Z Z (w0 d0).symm ⟨_,.t2⟩ ((bE _).trans hl2) (by omega))<|ak.storeB (j:=x.dst.toNat) Z8 Z Z .t2 (by first|omega|(simp;omega))<|z6<|yw ?_
                 exact ⟨jo,jt,ids,by rw[hI];exact hids,rfl,by rw[hI];rfl⟩
               ·have n11:¬x.op=11:=fun e=>c11 ((aK hop 11 (by decide) rfl).2 e)
                refine ao<|z8 (yx Z Z)<|ab Z<|z6<|zp Z (fun c12=>?_) (fun c12=>?_)
                ·have e:x.op=12:=(aK hop 12 (by decide) rfl).1 c12
                 obtain ⟨d1,d0⟩:=hx.made (by rw[e];decide)
                 obtain ⟨_,_,rfl⟩:a=aG s x∧p=pG s x∧r=rG s x:=by have:=hu (by rw[hargc,e];decide);simpa using this
                 have hrr:rG s x<s.arrays.length:=(ke hg (hx.a0 (by rw[hargc,e];decide))).2
                 refine zb<|ao<|aa Z<|ay Z Z<|z6<|zp Z (fun cr=>?_) (fun cr=>?_)
                 ·have cr:rG s x<0:=by omega
                  have hI:bi s x=cu s 2:=by rw[bK hc];unfold doG;simp[e,cr]
                  refine ao<|bd Z<|yr Z (zq (.l (.l (.l (.l (.l (.l (.l (.rest _))))))))) (cP f iw ja jb jc jo jt ids s 2) ?_
                  rintro r241 O241 ⟨rfl,rfl⟩
                  refine z6<|ze<|yw ?_
                  exact ⟨jo,jt,ids,by rw[hI];exact hids,rfl,by rw[hI];rfl⟩
                 ·have cr:¬rG s x<0:=by omega
                  have hI:bi s x=stI s x.dst ((gA s (rG s x)).length):=by rw[bK hc];unfold doG;simp[e,cr]
                  obtain ⟨w,hw0⟩:=nn hids (j:=(rG s x).toNat) (by omega)
                  refine zg<|zo (fun j=>Nat.beq j 14) (by kernel_rfl) Z (zq (.r (.l (.l (.l (.r (.rest _)))))))<|ad 0 Z (dh Z)<|ad 1 Z (zf Z)<|ad 2 Z (za j8 Z Z3 (by decide) Z Z)<|ad 3 Z (zd (c:=.own _ _) Zc Z ⟨_,.head⟩ Z)<|ad 4 Z (cG Z)<|ad 5 Z (dh Z)<|ad 6 Z (zf Z)<|ad 7 Z (za j8 Z Zl (by decide) Z Z)<|ad 8 Z (zd (c:=.own _ _) Y1 Z ⟨_,.head⟩ Z)<|ad 9 Z (cG Z)<|ad 10 Z (ym (j:=(rG s x).toNat) Z2 Z3 Z Z (w0 (Int.not_lt.1 cr)).symm ⟨_,.t1⟩ (fh hids) (by omega))<|ad 11 Z (Gv.load1G (c:=_) Zc Z ⟨_,.t1⟩ (fj hw0 (eT (by omega) hrr)))<|ad 12 Z (Gv.lenO jg Z)<|bl 13 Z<|z8 (ym (j:=x.dst.toNat) jg Z0 Z Z (w0 d0).symm ⟨_,.head⟩ ((aO _).trans hl1) (by omega))<|z6<|ya<|yg (i:=14) Z (by kernel_rfl) (by kernel_rfl)<|q7 (j:=x.dst.toNat) Z0 Z Z .t2 (by first|omega|(simp;omega))<|z6<|ye (by kernel_rfl)<|q5 (zj (zn .t4))<|q5 (zj (zn .t4))<|q5 (zj (zn .t4))<|q5 (zj (zn .t3))<|yw ?_
                  exact ⟨jo,jt,ids,by rw[hI];exact hids,rfl,by rw[hI];rfl⟩
                ·have n12:¬x.op=12:=fun e=>c12 ((aK hop 12 (by decide) rfl).2 e)
                 refine ao<|z8 (yx Z Z)<|ab Z<|z6<|zp Z (fun c13=>?_) (fun c13=>?_)
                 ·have e:x.op=13:=(aK hop 13 (by decide) rfl).1 c13
                  obtain ⟨d1,d0⟩:=hx.made (by rw[e];decide)
                  obtain ⟨_,_,rfl⟩:a=aG s x∧p=pG s x∧r=rG s x:=by have:=hu (by rw[hargc,e];decide);simpa using this
                  obtain ⟨rfl,_⟩:b=bG s x∧q=qG s x:=by have:=hw (by rw[hargc,e];decide);simpa using this
                  refine zb<|ao<|bd Z<|aa Z<|aa Z<|yr Z (zq (.l (.l (.l (.l (.l (.l (.l (.rest _))))))))) (gg f iw ja jb jc jo jt ids s (rG s x) (bG s x) hids) ?_
                  rintro r261 O261 ⟨rfl,rfl⟩
                  refine aE Z<|z6<|zw Z (fun cp=>?_) (fun cp=>?_)
                  ·have cp:¬dE s (rG s x) (bG s x)=true:=by simpa using cp
                   have hI:bi s x=cu s 2:=by rw[bK hc];unfold doG;simp[e,cp]
                   refine ao<|bd Z<|yr Z (zq (.l (.l (.l (.l (.l (.l (.l (.rest _))))))))) (cP f iw ja jb jc jo jt ids s 2) ?_
                   rintro r264 O264 ⟨rfl,rfl⟩
                   refine z6<|ze<|yw ?_
                   exact ⟨jo,jt,ids,by rw[hI];exact hids,rfl,by rw[hI];rfl⟩
                  ·have cp:dE s (rG s x) (bG s x)=true:=by simpa using cp
                   obtain ⟨h1,h2,h3,h4⟩:=gm.1 cp
                   obtain ⟨w,hw0⟩:=nn hids (j:=(rG s x).toNat) (by omega)
                   obtain ⟨X,hX1,hX2⟩:=nk Ad ids s.arrays _ hw0 (eT h1 h2)
                   have hI:bi s x=stI s x.dst (vi (gA s (rG s x)) (bG s x)):=by rw[bK hc];unfold doG;simp[e,cp]
                   refine zy (aZ.bagOut (i:=w) (o:=.grow 1 2 (cI (gA s (rG s x)))) (X':=X) (hX1) .t6)<|zg<|zo (fun j=>Nat.beq j 16) (by kernel_rfl) Z (zq (.r (.r (.l (.l (.l (.r (.rest _))))))))<|ad 0 Z (dh Z)<|ad 1 Z (zf Z)<|ad 2 Z (za j8 Z Z3 (by decide) Z Z)<|ad 3 Z (zd (c:=.own _ _) Zc Z ⟨_,.t1⟩ Z)<|ad 4 Z (cG Z)<|ad 5 Z (dh Z)<|ad 6 Z (zf Z)<|ad 7 Z (za j8 Z Zl (by decide) Z Z)<|ad 8 Z (zd (c:=.own _ _) Y1 Z ⟨_,.t1⟩ Z)<|ad 9 Z (cG Z)<|ad 10 Z (ym (j:=(rG s x).toNat) Z2 Z3 Z Z (w0 h1).symm ⟨_,.t2⟩ (fh hids) (by omega))<|ad 11 Z (Gv.load1G (c:=_) Zc Z ⟨_,.t2⟩ (fj hw0 (eT h1 h2)))<|ad 12 Z (cG Z)<|ad 13 Z (ym (j:=(bG s x).toNat) jg Z0 Z Z (w0 h3).symm ⟨_,.head⟩ (aO _) (by omega))<|ad 14 Z (qh (j:=(bG s x).toNat) Zz Z ⟨_,.head⟩ (dO h4 h3))<|bl 15 Z<|z8 (ym (j:=x.dst.toNat) jg Z0 Z Z (w0 d0).symm ⟨_,.head⟩ ((aO _).trans hl1) (by omega))<|z6<|ya<|yg (i:=16) Z (by kernel_rfl) (by kernel_rfl)<|q7 (j:=x.dst.toNat) Z0 Z Z .t3 (by first|omega|(simp;omega))<|z6<|ye (by kernel_rfl)<|q5 (aZ.bagIn (X':=lE ids s.arrays) .head (hX1.symm) .t6)<|q5 (zj (zn .t4))<|q5 (zj (zn .t4))<|q5 (zj (zn .t4))<|q5 (zj (zn .t3))<|yw ?_
                   exact ⟨jo,jt,ids,by rw[hI];exact hids,rfl,by rw[hI];rfl⟩
                 ·have n13:¬x.op=13:=fun e=>c13 ((aK hop 13 (by decide) rfl).2 e)
                  refine ao<|z8 (yx Z Z)<|ab Z<|z6<|zp Z (fun c14=>?_) (fun c14=>?_)
                  ·have e:x.op=14:=(aK hop 14 (by decide) rfl).1 c14
                   obtain ⟨_,_,rfl⟩:a=aG s x∧p=pG s x∧r=rG s x:=by have:=hu (by rw[hargc,e];decide);simpa using this
                   obtain ⟨rfl,_⟩:b=bG s x∧q=qG s x:=by have:=hw (by rw[hargc,e];decide);simpa using this
                   obtain ⟨q2,r2⟩:=hx.a2 (by rw[hargc,e];decide)
                   have hal:2<x.args.length:=by rw[hargc,e];decide
                   refine zb<|ao<|bd Z<|aa Z<|aa Z<|yr Z (zq (.l (.l (.l (.l (.l (.l (.l (.rest _))))))))) (gg f iw ja jb jc jo jt ids s (rG s x) (bG s x) hids) ?_
                   rintro r286 O286 ⟨rfl,rfl⟩
                   refine aE Z<|z6<|zw Z (fun cp=>?_) (fun cp=>?_)
                   ·have cp:¬dE s (rG s x) (bG s x)=true:=by simpa using cp
                    have hI:bi s x=cu s 2:=by rw[bK hc];unfold doG;simp[e,cp]
                    refine ao<|bd Z<|yr Z (zq (.l (.l (.l (.l (.l (.l (.l (.rest _))))))))) (cP f iw ja jb jc jo jt ids s 2) ?_
                    rintro r289 O289 ⟨rfl,rfl⟩
                    refine z6<|ze<|yw ?_
                    exact ⟨jo,jt,ids,by rw[hI];exact hids,rfl,by rw[hI];rfl⟩
                   ·have cp:dE s (rG s x) (bG s x)=true:=by simpa using cp
                    obtain ⟨h1,h2,h3,h4⟩:=gm.1 cp
                    obtain ⟨w,hw0⟩:=nn hids (j:=(rG s x).toNat) (by omega)
                    obtain ⟨X,hX1,hX2⟩:=nk Ad ids s.arrays _ hw0 (eT h1 h2)
                    have hI:bi s x={ s with arrays:=s.arrays.set (rG s x).toNat ((gA s (rG s x)).set (bG s x).toNat (vi s.ints (zH x))) }:=by rw[bK hc];unfold doG;simp[e,cp]
                    refine zy (aZ.bagOut (i:=w) (o:=.grow 1 2 (cI (gA s (rG s x)))) (X':=X) (hX1) .t6)<|zg<|zo (fun j=>Nat.beq j 18) (by kernel_rfl) Z (zq (.l (.r (.r (.l (.l (.r (.rest _))))))))<|ad 0 Z (dh Z)<|ad 1 Z (zf Z)<|ad 2 Z (za j8 Z Zl (by decide) Z Z)<|ad 3 Z (zd (c:=.own _ _) Y1 Z ⟨_,.head⟩ Z)<|ad 4 Z (cG Z)<|ad 5 Z (ym (j:=(rG s x).toNat) Z2 Z3 Z Z (w0 h1).symm ⟨_,.t2⟩ (fh hids) (by omega))<|ad 6 Z (Gv.load1G (c:=_) Zc Z ⟨_,.t2⟩ (fj hw0 (eT h1 h2)))<|ad 7 Z (cG Z)<|ad 8 Z (dh Z)<|ad 9 Z (zf Z)<|ad 10 Z (za j8 Z Z3 (by decide) Z Z)<|ad 11 Z (zd (c:=.own _ _) Zc Z ⟨_,.head⟩ Z)<|ad 12 Z (eR Z)<|ad 13 Z (dj 2 j6 j7 Z Z Z (me hal))<|ad 14 Z (d8 je Z)<|ad 15 Z (ym (j:=(zH x).toNat) jg Z0 Z Z (w0 r2).symm ⟨_,.t1⟩ ((aO _).trans hl1) (by omega))<|ad 16 Z (qh (j:=(zH x).toNat) Zz Z ⟨_,.t1⟩ (dO (by omega) r2))<|bl 17 Z<|z8 (ym (j:=(bG s x).toNat) jg Z0 Z Z (w0 h3).symm ⟨_,.head⟩ (aO _) (by omega))<|z6<|ya<|yg (i:=18) Z (by kernel_rfl) (by kernel_rfl)<|q7 (j:=(bG s x).toNat) Z0 Z Z .t3 (by first|omega|(simp;omega))<|z6<|ye (by kernel_rfl)<|q5 (aZ.bagIn (X':=lE ids (s.arrays.set (rG s x).toNat ((gA s (rG s x)).set (bG s x).toNat (vi s.ints (zH x))))) .t3 ((by have:=hX2 w ((gA s (rG s x)).set (bG s x).toNat (vi s.ints (zH x)));rw[wT hw0] at this;exact this)) .t6)<|q5 (zj (zn .t2))<|q5 (zj (zn .t4))<|q5 (zj (zn .t4))<|q5 (zj (zn .t4))<|q5 (zj (zn .t4))<|yw ?_
                    exact ⟨jo,jt,ids,by rw[hI];simpa using hids,rfl,by rw[hI];unfold wO wR nU;rw[oC (eT h1 h2) (List.length_set ..)];simp⟩
                  ·have n14:¬x.op=14:=fun e=>c14 ((aK hop 14 (by decide) rfl).2 e)
                   refine ao<|z8 (yx Z Z)<|ab Z<|z6<|zp Z (fun c15=>?_) (fun c15=>?_)
                   ·have e:x.op=15:=(aK hop 15 (by decide) rfl).1 c15
                    obtain ⟨d1,d0⟩:=hx.made (by rw[e];decide)
                    obtain ⟨rfl,_,_⟩:a=aG s x∧p=pG s x∧r=rG s x:=by have:=hu (by rw[hargc,e];decide);simpa using this
                    refine zk<|zb<|yp (γ:=Bool) [0,7,12] (fun z=>[(333,.bool z)]) (fun z=>wO f iw ja jb jc jo jt ids s) (fun z=>z=decide (aG s x<0∨64<aG s x)) ?_ (fun _ _ h=>h) ?_
                    ·refine bj<|aa Z<|ay Z Z<|ah Z<|zm (s:=336) Z (fun cn=>?_) (fun cn=>?_)
                     ·have cn2:aG s x<0:=by simpa using cn
                      refine z2 Z Z cn<|z2 Z Z cn<|ap Z cn Z<|ab Z<|z6 ?_
                      exact ⟨_,gB,aY,aS,by rw[qx (.inl cn2)]⟩
                     ·have cn2:¬aG s x<0:=by simpa using cn
                      refine z7 Z Z cn<|aa Z<|z7 Z Z cn<|z8 (q3 Z Z)<|aq Z cn Z<|ab Z<|z6 ?_
                      exact ⟨_,gB,aY,aS,by rw[decide_eq_decide];exact ⟨fun h=>.inr h,fun h=>h.resolve_left cn2⟩⟩
                    ·rintro z hz4
                     refine zw Z (fun cz4=>?_) (fun cz4=>?_)
                     ·have cz4:aG s x<0∨64<aG s x:=of_decide_eq_true (hz4.symm.trans cz4)
                      have hI:bi s x=cu s 2:=by rw[bK hc];unfold doG;simp[e,cz4]
                      refine bj<|bd Z<|yr Z (zq (.l (.l (.l (.l (.l (.l (.l (.rest _))))))))) (cP f iw ja jb jc jo jt ids s 2) ?_
                      rintro r341 O341 ⟨rfl,rfl⟩
                      refine z6<|yw ?_
                      exact ⟨jo,jt,ids,by rw[hI];exact hids,rfl,by rw[hI];rfl⟩
                     ·have cz4:¬(aG s x<0∨64<aG s x):=of_decide_eq_false (hz4.symm.trans cz4)
                      refine ao<|bd Z<|z8 (zf Z)<|z8 (za j8 Z Zl (by decide) Z Z)<|z8 (zd (c:=.own _ _) Y1 Z ⟨_,.head⟩ Z)<|z8 (Gv.lenO Z2 Z)<|z8 (qg Z Z)<|ab Z<|z6<|zp Z (fun c32=>?_) (fun c32=>?_)
                      ·have c32:32≤s.arrays.length:=by omega
                       have hI:bi s x=cu s 3:=by rw[bK hc];unfold doG;rw[e,if_neg (by decide),if_neg (by decide),if_neg (by decide),if_neg (by decide),if_neg (by decide),if_neg (by decide),if_neg (by decide),if_neg (by decide),if_neg (by decide),if_neg (by decide),if_neg (by decide),if_neg (by decide),if_neg (by decide),if_neg (by decide),if_neg (by decide),if_pos rfl,if_neg cz4,if_pos c32]
                       refine bj<|bd Z<|yr Z (zq (.l (.l (.l (.l (.l (.l (.l (.rest _))))))))) (cP f iw ja jb jc jo jt ids s 3) ?_
                       rintro r350 O350 ⟨rfl,rfl⟩
                       refine z6<|yw ?_
                       exact ⟨jo,jt,ids,by rw[hI];exact hids,rfl,by rw[hI];rfl⟩
                      ·have c32:¬32≤s.arrays.length:=by omega
                       have hI:bi s x=stA { s with arrays:=s.arrays++[List.replicate (aG s x).toNat 0] } x.dst s.arrays.length:=by rw[bK hc];unfold doG;rw[e,if_neg (by decide),if_neg (by decide),if_neg (by decide),if_neg (by decide),if_neg (by decide),if_neg (by decide),if_neg (by decide),if_neg (by decide),if_neg (by decide),if_neg (by decide),if_neg (by decide),if_neg (by decide),if_neg (by decide),if_neg (by decide),if_neg (by decide),if_pos rfl,if_neg cz4,if_neg c32]
                       refine zb<|zo (fun j=>Nat.beq j 11) (by kernel_rfl) Z (zq (.r (.rest _)))<|ad 0 Z (dh Z)<|ad 1 Z (dh Z)<|ad 2 Z (zf Z)<|ad 3 Z (za j8 Z Zl (by decide) Z Z)<|ad 4 Z (zd (c:=.own _ _) Y1 Z ⟨_,.head⟩ Z)<|ad 5 Z (cG Z)<|bl 6 Z<|ql (m:=(aG s x).toNat) jg Y2 Z Z Z Z Z (by omega) (by omega) (by show (8:Int)*_≤_;omega) (by omega)<|fun i316=>z6<|bl 7 Z<|yk (rows:=[[_]]) wS Z Z Z Z Z<|z6<|bl 8 Z<|yt (k:=1) Z2 type49 Z Z Z Z Z (fun _=>.t4) (by rw[fh hids];omega) (by decide) Z (by show (_+1)*24≤_;omega) (by show _+1≤_;omega)<|fun i318=>z6<|yj (i:=9) Z (by kernel_rfl) (by kernel_rfl) (by kernel_rfl) (by kernel_rfl) (zf Z)<|ad 10 Z (za j8 Z Zl (by decide) Z Z)<|ya<|yg (i:=11) Z (by kernel_rfl) (by kernel_rfl)<|y8 (l:=[_]) (new:=[_,_,_,_,_,_,_,_,_,_,_,_,_,_,_,_,_,_,_,_,_,_,_]) Zl Z Z Z Z Z Z .head Z Z<|z6<|ye (by kernel_rfl)<|zy (aZ.bagIn (X':=lE (ids++[i316]) (s.arrays++[List.replicate (aG s x).toNat 0])) .t1 (oD i316 _ hids) .t6)<|zo (fun j=>Nat.beq j 12) (by kernel_rfl) Z (zq (.r (.rest _)))<|ad 0 Z (dh Z)<|ad 1 Z (zf Z)<|ad 2 Z (za j8 Z jn (by decide) Z Z)<|ad 3 Z (zd (c:=.own _ _) js Z ⟨_,.head⟩ Z)<|ad 4 Z (cG Z)<|ad 5 Z (dh Z)<|ad 6 Z (zf Z)<|ad 7 Z (za j8 Z Zl (by decide) Z Z)<|ad 8 Z (zd (c:=.own _ _) Y1 Z ⟨_,.head⟩ Z)<|ad 9 Z (Gv.lenO Z2 Z)<|ad 10 Z (qn Z Z (by unfold ft;simp only[List.length_cons,List.length_nil];omega))<|bl 11 Z<|z8 (ym (j:=x.dst.toNat) j6 j7 Z Z (w0 d0).symm ⟨_,.t2⟩ ((aO _).trans hl3) (by omega)) ?_
                       refine z6<|ya<|yg (i:=12) Z (by kernel_rfl) (by kernel_rfl)<|q7 (j:=x.dst.toNat) j7 Z Z .t3 (by first|omega|(simp;omega))<|z6<|ye (by kernel_rfl)<|q5 (zj (zn .t5))<|q5 (zj (zn .t5))<|q5 (zj (zn .t5))<|q5 (zj (zn .t5))<|q5 (zj (zn .t5))<|q5 (zj (zn .t5))<|yw ?_
                       exact ⟨i318,jt,ids++[i316],by rw[hI];simp[stA,hids],rfl,by rw[hI];exact Cy f iw ja jb jc i318 jt hids i316 (aG s x).toNat x.dst _ (by simp only[List.length_cons,List.length_nil];omega)⟩
                   ·have n15:¬x.op=15:=fun e=>c15 ((aK hop 15 (by decide) rfl).2 e)
                    refine ao<|z8 (yx Z Z)<|ab Z<|z6<|zp Z (fun c16=>?_) (fun c16=>?_)
                    ·have e:x.op=16:=(aK hop 16 (by decide) rfl).1 c16
                     obtain ⟨d1,d0⟩:=hx.made (by rw[e];decide)
                     have hI:bi s x=stA s x.dst (-1):=by rw[bK hc];unfold doG;simp[e]
                     refine bj<|bd Z<|z8 (zf Z)<|z8 (za j8 Z jn (by decide) Z Z)<|z8 (zd (c:=.own _ _) js Z ⟨_,.head⟩ Z)<|aa Z<|z8 (ym (j:=x.dst.toNat) j6 j7 Z Z (w0 d0).symm ⟨_,.t3⟩ ((aO _).trans hl3) (by omega))<|q7 (j:=x.dst.toNat) j7 Z Z .t3 (by first|omega|(simp;omega))<|z6<|yw ?_
                     exact ⟨jo,jt,ids,by rw[hI];exact hids,rfl,by rw[hI];rfl⟩
                    ·have n16:¬x.op=16:=fun e=>c16 ((aK hop 16 (by decide) rfl).2 e)
                     refine ao<|z8 (yx Z Z)<|ab Z<|z6<|zp Z (fun c17=>?_) (fun c17=>?_)
                     ·have e:x.op=17:=(aK hop 17 (by decide) rfl).1 c17
                      obtain ⟨rfl,_,_⟩:a=aG s x∧p=pG s x∧r=rG s x:=by have:=hu (by rw[hargc,e];decide);simpa using this
                      refine zb<|ao<|bd Z<|z8 (zf Z)<|z8 (za j8 Z jz (by decide) Z Z)<|z8 (za jf Z Z3 (by decide) Z Z)<|z8 (zd (c:=.own _ _) Zc Z ⟨_,.head⟩ Z)<|z8 (Gv.lenO jg Z)<|z8 (qg Z Z)<|z6<|zp Z (fun ct=>?_) (fun ct=>?_)
                      ·have ct:4096≤s.trace.length:=by omega
                       have hI:bi s x=cu s 3:=by rw[bK hc];unfold doG;simp[e,ct]
                       refine ao<|bd Z<|yr Z (zq (.l (.l (.l (.l (.l (.l (.l (.rest _))))))))) (cP f iw ja jb jc jo jt ids s 3) ?_
                       rintro r369 O369 ⟨rfl,rfl⟩
                       refine z6<|ze<|yw ?_
                       exact ⟨jo,jt,ids,by rw[hI];exact hids,rfl,by rw[hI];rfl⟩
                      ·have ct:¬4096≤s.trace.length:=by omega
                       have hI:bi s x={ s with trace:=s.trace++[aG s x] }:=by rw[bK hc];unfold doG;simp[e,ct]
                       refine zg<|bj<|bd Z<|bd Z<|z8 (zf Z)<|z8 (za j8 Z jz (by decide) Z Z)<|z8 (za jf Z Z3 (by decide) Z Z)<|z8 (zd (c:=.own _ _) Zc Z ⟨_,.head⟩ Z)<|aa Z<|yk (rows:=[[_]]) Cx Z Z Z Z Z<|yt (k:=1) jg Y2 Z Z Z Z Z (fun _=>.t5) (by rw[aO];omega) (by decide) Z (by show (_+1)*8≤_;omega) (by show _+1≤_;omega)<|fun i378=>z8 (zf Z)<|z8 (za j8 Z jz (by decide) Z Z)<|z8 (za jf Z Z3 (by decide) Z Z)<|y8 (l:=[_]) (new:=[_,_,_,_,_,_,_,_,_,_,_,_,_,_,_,_,_,_,_,_,_,_,_]) Z3 Z Z Z Z Z Z .head Z Z<|z6<|yw ?_
                       exact ⟨jo,i378,ids,by rw[hI];exact hids,rfl,by rw[hI];exact Cz f iw ja jb jc jo i378 _⟩
                     ·exfalso
                      have n17:¬x.op=17:=fun e=>c17 ((aK hop 17 (by decide) rfl).2 e)
                      omega
end Go.Proofs.YtbconpmnckokoaaGreatDoor
