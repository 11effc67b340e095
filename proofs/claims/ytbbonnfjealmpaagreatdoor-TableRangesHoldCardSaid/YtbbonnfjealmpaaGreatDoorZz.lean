/- An instruction of the document's machine. Of programs as they are run. -/
import Derived.Test.YtbbonnfjealmpaaGreatDoorZy
set_option linter.unusedVariables false
set_option linter.unusedSimpArgs false
set_option linter.unusedSectionVars false
namespace Go.Proofs.YtbbonnfjealmpaaGreatDoor
open Go.Proofs.Tryz
open Go.Proofs Go.Lib Go.Shelf Go.RowKit
theorem G6:dn prog 28 66 1 1 [.n]:=⟨_,Zm,Zx,zeroValue66,by decide,by decide,by kernel_rfl⟩
theorem KC:dn prog 66 2 1 1 [.int .i64 0]:=⟨_,Z5,Z1,zeroValue2,by decide,by decide,by kernel_rfl⟩
variable {E:World}
set_option maxRecDepth 20000
theorem de {s:GS} {x:aB} (h:¬(18≤x.op∧x.op≤24)):ba s x=doG s x:=by unfold ba;rw[if_neg h]
theorem ml {l:List Bool} {v:Int} (h1:v<l.length) (_:0≤v):l[v.toNat]?=some (gb l v):=by
 unfold gb;rw[qx (by omega)];rfl
theorem G7 {α:Type}:∀{l:List α} {j:Nat} {a:α},l[j]?=some a→l.set j a=l
 |[],_,_,h=>by simp at h
 |_::_,0,_,h=>by simp at h;subst h;rfl
 |_::l,j+1,a,h=>by rw[List.set_cons_succ,G7 (l:=l) (by simpa using h)]
theorem zV:∀{ids:List Nat} {rs:List (List Int)} {j:Nat} {r r':List Int},rs[j]?=some r→r'.length=r.length→jH ids (rs.set j r')=jH ids rs
 |[],_,_,_,_,_,_=>rfl
 |_::_,[],_,_,_,h,_=>by simp at h
 |i::ids,r0::rs,0,r,r',h,hl=>by
  simp at h
  subst h
  show AV.own i r'.length::_=AV.own i r0.length::_
  rw[hl]
 |i::ids,r0::rs,j+1,r,r',h,hl=>by
  show AV.own i r0.length::jH ids (rs.set j r')=AV.own i r0.length::jH ids rs
  rw[zV (by simpa using h) hl]
theorem uU {ids:List Nat} {rs:List (List Int)} (i:Nat) (r:List Int) (h:ids.length=rs.length):jH ids rs++[AV.own i r.length]=jH (ids++[i]) (rs++[r]):=by
 unfold jH;rw[List.zipWith_append h];rfl
theorem zW {ids:List Nat} {rs:List (List Int)} (i:Nat) (r:List Int) (h:ids.length=rs.length):(IQ i r::tf ids rs).Perm (tf (ids++[i]) (rs++[r])):=by
 unfold tf;rw[List.zipWith_append h];exact List.perm_append_comm (l₁:=[_])
theorem KD (f:ab) (iw ja jb jc jo jt:Nat) {ids:List Nat} {s:GS} (h:ids.length=s.arrays.length) (i m:Nat) (d v:Int) (hv:v=s.arrays.length):(iw,bC.cells 99 (bw f++[.own ja f.vars.length,.own jb f.vars.length,.own jc f.vars.length,.own jo (s.arrays.length+1),.int .i64 s.blk,.int .i64 s.pc,.int .i64 s.en,.int .i64 s.val,.int .i64 s.tr,.own jt s.trace.length,.int .i64 s.st,.int .i64 (s.ck 0),.int .i64 (s.ck 1),.int .i64 (s.ck 2),.int .i64 (s.ck 3),.int .i64 (s.ck 4),.int .i64 (s.ck 5),.int .i64 (s.ck 6),.int .i64 (s.ck 7),.bool s.ended]))::(ja,.grow 1 2 (cI s.ints))::(jb,.grow 1 4 (cB s.bools))::(jc,.grow 1 3 (cI (s.arrs.set d.toNat v)))::(jo,.grow 1 66 (jH ids s.arrays++[.own i m]))::(jt,.grow 1 2 (cI s.trace))::[(0,IJ (tf (ids++[i]) (s.arrays++[List.replicate m 0])))]=wO f iw ja jb jc jo jt (ids++[i]) (stA { s with arrays:=s.arrays++[List.replicate m 0] } d s.arrays.length):=by
 subst hv
 unfold wO wR IR stA
 rw[←uU i (List.replicate m 0) h]
 simp only[w5,List.length_singleton,List.length_replicate]
theorem KE (f:ab) (iw ja jb jc jo jt:Nat) {ids:List Nat} {s:GS} (a:Int):(iw,bC.cells 99 (bw f++[.own ja f.vars.length,.own jb f.vars.length,.own jc f.vars.length,.own jo s.arrays.length,.int .i64 s.blk,.int .i64 s.pc,.int .i64 s.en,.int .i64 s.val,.int .i64 s.tr,.own jt (s.trace.length+1),.int .i64 s.st,.int .i64 (s.ck 0),.int .i64 (s.ck 1),.int .i64 (s.ck 2),.int .i64 (s.ck 3),.int .i64 (s.ck 4),.int .i64 (s.ck 5),.int .i64 (s.ck 6),.int .i64 (s.ck 7),.bool s.ended]))::(ja,.grow 1 2 (cI s.ints))::(jb,.grow 1 4 (cB s.bools))::(jc,.grow 1 3 (cI s.arrs))::(jo,.grow 1 66 (jH ids s.arrays))::(jt,.grow 1 2 (cI s.trace++[.int .i64 a]))::[(0,IJ (tf ids s.arrays))]=wO f iw ja jb jc jo jt ids { s with trace:=s.trace++[a] }:=by
 unfold wO wR IR
 rw[show cI s.trace++[AV.int .i64 a]=cI (s.trace++[a]) from kK s.trace [a]]
 simp only[w5,List.length_singleton]
set_option maxHeartbeats 16000000 in
theorem BE (f:ab) (iw ja jb jc jo jt:Nat) (ids:List Nat) (s:GS) (x:aB) (hids:ids.length=s.arrays.length) (hg:bA f s) (hx:dC f x) (hv:f.vars.length≤1000) (hck:∀i,s.ck i≤1000000000):bn prog E 63 [.po iw 0,.agg (bq x)] (wO f iw ja jb jc jo jt ids s) (fun y O=>∃jo' jt' ids',ids'.length=(ba s x).arrays.length∧y=.tup []∧O=wO f iw ja jb jc jo' jt' ids' (ba s x)):=by
 have hop:=hx.op
 have hl1:=hg.li
 have hl2:=hg.lb
 have hl3:=hg.la
 have hargc:=hx.argc
 obtain ⟨t,ht⟩:∃t,(if 18≤x.op∧x.op≤24 then x.op - 17 else 0)=t:=⟨_,rfl⟩
 have hchk:=zJ (E:=E) x.op hop
 rw[ht] at hchk
 refine zp func63 U (by decide) U<|ae<|y6 (cs:=_) U U U<|z2<|zb<|zr (fun j=>false) (by kernel_rfl) U (zo (.rest _))<|ai 1 U (db jd U Zs U U)<|ai 2 U (dQ Y2 U)<|aN 0 U<|ze (kn) U<|z2<|ai 3 U (bB x.op.toNat Xc Yz U U (by omega) (se hop))<|ai 4 U (db Y7 U Y6 U U)<|ai 5 U (qe (c:=.str _) Yk U)<|ai 6 U (q8 (v:=.str _) U)<|bI<|zb<|ae<|ak jd U Zs U U<|aA Y2 U<|ze (hchk) U<|am U<|z2<|ae<|aa U<|be U U<|z2<|zn U (fun c=>?_) (fun c=>?_)
 ·have hc:18≤x.op∧x.op≤24:=by
   refine Classical.byContradiction fun hn=>?_
   rw[if_neg hn] at ht;omega
  rw[if_pos hc] at ht
  refine zb<|yb (γ:=Nat) [0,3,4,5] (fun g=>[]) (fun g=>wO f iw ja jb jc jo jt ids (mS s g)) (fun g=>(g:Int)=t) ?_ (fun _ _ h=>h) ?_
  ·have ht7:t=1∨t=2∨t=3∨t=4∨t=5∨t=6∨t=7:=by omega
   rcases ht7 with h7|h7|h7|h7|h7|h7|h7
   ·have hb:=hck 1
    refine zr (fun j=>Nat.beq j 12) (by kernel_rfl) U (zo (.rest _))<|ai 0 U (dR U)<|ai 1 U (dx U)<|ai 2 U (zy U)<|ai 3 U (zh jf U Yb (by decide) U U)<|ai 4 U (zh Zk U X4 (by decide) U U)<|ai 5 U (qd (j:=1) Ya j9 U U h7 (by decide) U)<|yv (i:=8) U (by kernel_rfl) (by kernel_rfl) (by kernel_rfl) (by kernel_rfl) (zy U)<|yv (i:=9) U (by kernel_rfl) (by kernel_rfl) (by kernel_rfl) (by kernel_rfl) (zh jf U Yb (by decide) U U)<|yv (i:=10) U (by kernel_rfl) (by kernel_rfl) (by kernel_rfl) (by kernel_rfl) (zh Zk U X4 (by decide) U U)<|aN 6 U<|z8 (zq (c:=.int _ _) jg U ⟨_,.head⟩ U)<|z2<|ai 7 U (G8 U U)<|ai 11 U (qd (j:=1) Ya j9 U U h7 (by decide) U)<|yc<|yk (i:=12) U (by kernel_rfl) (by kernel_rfl)<|yn (l:=[_]) (new:=[_,_,_,_,_,_,_,_,_,_,_,_,_,_,_,_,_,_,_,_,_,_,_]) j9 U U U U U U .head U U<|z2<|yf (by kernel_rfl) ?_
    exact ⟨1,fC,trivial,aE,by rw[h7];rfl⟩
   ·have hb:=hck 2
    refine zr (fun j=>Nat.beq j 12) (by kernel_rfl) U (zo (.rest _))<|ai 0 U (dR U)<|ai 1 U (dx U)<|ai 2 U (zy U)<|ai 3 U (zh jf U Yb (by decide) U U)<|ai 4 U (zh Zk U X4 (by decide) U U)<|ai 5 U (qd (j:=2) Ya j9 U U h7 (by decide) U)<|yv (i:=8) U (by kernel_rfl) (by kernel_rfl) (by kernel_rfl) (by kernel_rfl) (zy U)<|yv (i:=9) U (by kernel_rfl) (by kernel_rfl) (by kernel_rfl) (by kernel_rfl) (zh jf U Yb (by decide) U U)<|yv (i:=10) U (by kernel_rfl) (by kernel_rfl) (by kernel_rfl) (by kernel_rfl) (zh Zk U X4 (by decide) U U)<|aN 6 U<|z8 (zq (c:=.int _ _) jg U ⟨_,.head⟩ U)<|z2<|ai 7 U (G8 U U)<|ai 11 U (qd (j:=2) Ya j9 U U h7 (by decide) U)<|yc<|yk (i:=12) U (by kernel_rfl) (by kernel_rfl)<|yn (l:=[_]) (new:=[_,_,_,_,_,_,_,_,_,_,_,_,_,_,_,_,_,_,_,_,_,_,_]) j9 U U U U U U .head U U<|z2<|yf (by kernel_rfl) ?_
    exact ⟨2,fC,trivial,aE,by rw[h7];rfl⟩
   ·have hb:=hck 3
    refine zr (fun j=>Nat.beq j 12) (by kernel_rfl) U (zo (.rest _))<|ai 0 U (dR U)<|ai 1 U (dx U)<|ai 2 U (zy U)<|ai 3 U (zh jf U Yb (by decide) U U)<|ai 4 U (zh Zk U X4 (by decide) U U)<|ai 5 U (qd (j:=3) Ya j9 U U h7 (by decide) U)<|yv (i:=8) U (by kernel_rfl) (by kernel_rfl) (by kernel_rfl) (by kernel_rfl) (zy U)<|yv (i:=9) U (by kernel_rfl) (by kernel_rfl) (by kernel_rfl) (by kernel_rfl) (zh jf U Yb (by decide) U U)<|yv (i:=10) U (by kernel_rfl) (by kernel_rfl) (by kernel_rfl) (by kernel_rfl) (zh Zk U X4 (by decide) U U)<|aN 6 U<|z8 (zq (c:=.int _ _) jg U ⟨_,.head⟩ U)<|z2<|ai 7 U (G8 U U)<|ai 11 U (qd (j:=3) Ya j9 U U h7 (by decide) U)<|yc<|yk (i:=12) U (by kernel_rfl) (by kernel_rfl)<|yn (l:=[_]) (new:=[_,_,_,_,_,_,_,_,_,_,_,_,_,_,_,_,_,_,_,_,_,_,_]) j9 U U U U U U .head U U<|z2<|yf (by kernel_rfl) ?_
    exact ⟨3,fC,trivial,aE,by rw[h7];rfl⟩
   ·have hb:=hck 4
    refine zr (fun j=>Nat.beq j 12) (by kernel_rfl) U (zo (.rest _))<|ai 0 U (dR U)<|ai 1 U (dx U)<|ai 2 U (zy U)<|ai 3 U (zh jf U Yb (by decide) U U)<|ai 4 U (zh Zk U X4 (by decide) U U)<|ai 5 U (qd (j:=4) Ya j9 U U h7 (by decide) U)<|yv (i:=8) U (by kernel_rfl) (by kernel_rfl) (by kernel_rfl) (by kernel_rfl) (zy U)<|yv (i:=9) U (by kernel_rfl) (by kernel_rfl) (by kernel_rfl) (by kernel_rfl) (zh jf U Yb (by decide) U U)<|yv (i:=10) U (by kernel_rfl) (by kernel_rfl) (by kernel_rfl) (by kernel_rfl) (zh Zk U X4 (by decide) U U)<|aN 6 U<|z8 (zq (c:=.int _ _) jg U ⟨_,.head⟩ U)<|z2<|ai 7 U (G8 U U)<|ai 11 U (qd (j:=4) Ya j9 U U h7 (by decide) U)<|yc<|yk (i:=12) U (by kernel_rfl) (by kernel_rfl)<|yn (l:=[_]) (new:=[_,_,_,_,_,_,_,_,_,_,_,_,_,_,_,_,_,_,_,_,_,_,_]) j9 U U U U U U .head U U<|z2<|yf (by kernel_rfl) ?_
    exact ⟨4,fC,trivial,aE,by rw[h7];rfl⟩
   ·have hb:=hck 5
    refine zr (fun j=>Nat.beq j 12) (by kernel_rfl) U (zo (.rest _))<|ai 0 U (dR U)<|ai 1 U (dx U)<|ai 2 U (zy U)<|ai 3 U (zh jf U Yb (by decide) U U)<|ai 4 U (zh Zk U X4 (by decide) U U)<|ai 5 U (qd (j:=5) Ya j9 U U h7 (by decide) U)<|yv (i:=8) U (by kernel_rfl) (by kernel_rfl) (by kernel_rfl) (by kernel_rfl) (zy U)<|yv (i:=9) U (by kernel_rfl) (by kernel_rfl) (by kernel_rfl) (by kernel_rfl) (zh jf U Yb (by decide) U U)<|yv (i:=10) U (by kernel_rfl) (by kernel_rfl) (by kernel_rfl) (by kernel_rfl) (zh Zk U X4 (by decide) U U)<|aN 6 U<|z8 (zq (c:=.int _ _) jg U ⟨_,.head⟩ U)<|z2<|ai 7 U (G8 U U)<|ai 11 U (qd (j:=5) Ya j9 U U h7 (by decide) U)<|yc<|yk (i:=12) U (by kernel_rfl) (by kernel_rfl)<|yn (l:=[_]) (new:=[_,_,_,_,_,_,_,_,_,_,_,_,_,_,_,_,_,_,_,_,_,_,_]) j9 U U U U U U .head U U<|z2<|yf (by kernel_rfl) ?_
    exact ⟨5,fC,trivial,aE,by rw[h7];rfl⟩
   ·have hb:=hck 6
    refine zr (fun j=>Nat.beq j 12) (by kernel_rfl) U (zo (.rest _))<|ai 0 U (dR U)<|ai 1 U (dx U)<|ai 2 U (zy U)<|ai 3 U (zh jf U Yb (by decide) U U)<|ai 4 U (zh Zk U X4 (by decide) U U)<|ai 5 U (qd (j:=6) Ya j9 U U h7 (by decide) U)<|yv (i:=8) U (by kernel_rfl) (by kernel_rfl) (by kernel_rfl) (by kernel_rfl) (zy U)<|yv (i:=9) U (by kernel_rfl) (by kernel_rfl) (by kernel_rfl) (by kernel_rfl) (zh jf U Yb (by decide) U U)<|yv (i:=10) U (by kernel_rfl) (by kernel_rfl) (by kernel_rfl) (by kernel_rfl) (zh Zk U X4 (by decide) U U)<|aN 6 U<|z8 (zq (c:=.int _ _) jg U ⟨_,.head⟩ U)<|z2<|ai 7 U (G8 U U)<|ai 11 U (qd (j:=6) Ya j9 U U h7 (by decide) U)<|yc<|yk (i:=12) U (by kernel_rfl) (by kernel_rfl)<|yn (l:=[_]) (new:=[_,_,_,_,_,_,_,_,_,_,_,_,_,_,_,_,_,_,_,_,_,_,_]) j9 U U U U U U .head U U<|z2<|yf (by kernel_rfl) ?_
    exact ⟨6,fC,trivial,aE,by rw[h7];rfl⟩
   ·have hb:=hck 7
    refine zr (fun j=>Nat.beq j 12) (by kernel_rfl) U (zo (.rest _))<|ai 0 U (dR U)<|ai 1 U (dx U)<|ai 2 U (zy U)<|ai 3 U (zh jf U Yb (by decide) U U)<|ai 4 U (zh Zk U X4 (by decide) U U)<|ai 5 U (qd (j:=7) Ya j9 U U h7 (by decide) U)<|yv (i:=8) U (by kernel_rfl) (by kernel_rfl) (by kernel_rfl) (by kernel_rfl) (zy U)<|yv (i:=9) U (by kernel_rfl) (by kernel_rfl) (by kernel_rfl) (by kernel_rfl) (zh jf U Yb (by decide) U U)<|yv (i:=10) U (by kernel_rfl) (by kernel_rfl) (by kernel_rfl) (by kernel_rfl) (zh Zk U X4 (by decide) U U)<|aN 6 U<|z8 (zq (c:=.int _ _) jg U ⟨_,.head⟩ U)<|z2<|ai 7 U (G8 U U)<|ai 11 U (qd (j:=7) Ya j9 U U h7 (by decide) U)<|yc<|yk (i:=12) U (by kernel_rfl) (by kernel_rfl)<|yn (l:=[_]) (new:=[_,_,_,_,_,_,_,_,_,_,_,_,_,_,_,_,_,_,_,_,_,_,_]) j9 U U U U U U .head U U<|z2<|yf (by kernel_rfl) ?_
    exact ⟨7,fC,trivial,aE,by rw[h7];rfl⟩
  ·rintro g hgt
   have hgn:(x.op - 17).toNat=g:=by omega
   have hal:0<x.args.length:=by
    obtain ⟨j,hj⟩:∃j:Nat,x.op=(j:Int):=⟨x.op.toNat,by omega⟩
    rw[hargc,hj,Int.toNat_natCast]
    have:j=18∨j=19∨j=20∨j=21∨j=22∨j=23∨j=24:=by omega
    rcases this with h|h|h|h|h|h|h<;>(rw[h];decide)
   have ho:BD f x.op x.args:=⟨hc.1,hc.2,hal,fun v hv=>bN (hx.args v hv)⟩
   refine zb<|ae<|bb U<|z8 (yt (v:=.str _) U)<|ak jd U jh U U<|aI jx U<|y3 U (zo (.l (.l (.l (.l (.l (.l (.l (.rest _))))))))) (vY f iw ja jb jc jo jt ids (mS s g) x.op x.args hids (hg.bump g) ho) ?_
   rintro r42 O42 ⟨rfl,rfl⟩
   refine aJ U<|z2<|zw U (fun cp=>?_) (fun cp=>?_)
   ·have hp:¬fp s x.op x.args=true:=fun h=>by have h2:fp (mS s g) x.op x.args=true:=h;rw[h2] at cp;cases cp
    have hI:ba s x=FU (mS s g) t:=by unfold ba;rw[if_pos hc,if_neg hp,hgn,ht]
    refine ae<|bb U<|aa U<|ax U<|z8 (zh jf U Yb (by decide) U U)<|z8 (zh Zk U sizeOf94 (by decide) U U)<|yn (l:=[_]) (new:=[_,_,_,_,_,_,_,_,_,_,_,_,_,_,_,_,_,_,_,_,_,_,_]) sizeOf94 U U U U U U .head U U<|z2<|aW<|bb U<|y3 U (zo (.l (.l (.l (.l (.l (.l (.l (.rest _))))))))) (eV f iw ja jb jc jo jt ids { mS s g with tr:=t } 1) ?_
    rintro r50 O50 ⟨rfl,rfl⟩
    refine z2<|zg<|yy ?_
    exact ⟨jo,jt,ids,by rw[hI];exact hids,rfl,by rw[hI];rfl⟩
   ·have hp:fp s x.op x.args=true:=by cases h:fp s x.op x.args;have h2:fp (mS s g) x.op x.args=false:=h;rw[h2] at cp;cases cp;rfl
    have hI:ba s x=mS s g:=by unfold ba;rw[if_pos hc,if_pos hp,hgn]
    refine zf<|zg<|yy ?_
    exact ⟨jo,jt,ids,by rw[hI];exact hids,rfl,by rw[hI];rfl⟩
 ·have hc:¬(18≤x.op∧x.op≤24):=fun h=>by rw[if_pos h] at ht;omega
  refine zf<|ae<|ak jd U jh U U<|aI jx U<|z8 (oA U)<|z2<|ae<|am U<|am U<|z2<|ae<|ad U<|ad U<|am U<|z2<|zb<|ae<|bd U<|aj j7 U<|be U U<|z2<|yb (γ:=Int × Bool × Int) [0,3,4,6,8,10] (fun u=>[(7,.i u.1),(9,.bool u.2.1),(11,.i u.2.2)]) (fun u=>wO f iw ja jb jc jo jt ids s) (fun u=>0<x.args.length→u=(aG s x,pG s x,rG s x)) ?_ (fun _ _ h=>h) ?_
  ·refine zn U (fun ca=>?_) (fun ca=>?_)
   ·have ca:0<x.args.length:=by omega
    obtain ⟨q0,r0⟩:=hx.a0 ca
    refine zr (fun j=>false) (by kernel_rfl) U (zo (.r (.r (.r (.r (.rest _))))))<|ai 0 U (dR U)<|ai 1 U (zy U)<|ai 2 U (zh jf U Zx (by decide) U U)<|ai 3 U (zq (c:=.own _ _) Ye U ⟨_,.head⟩ U)<|ai 4 U (vZ U)<|ai 5 U (bB 0 j7 j9 U U U (tZ ca))<|ai 6 U (dQ jg U)<|ai 7 U (yd (j:=(dq x).toNat) Z5 Z1 U U (wj r0).symm ⟨_,.t1⟩ ((aF _).trans hl1) (by omega))<|ai 8 U (yw (j:=(dq x).toNat) Zc U ⟨_,.t1⟩ (fR (by omega) r0))<|ai 9 U (dR U)<|ai 10 U (zy U)<|ai 11 U (zh jf U Yg (by decide) U U)<|ai 12 U (zq (c:=.own _ _) Yu U ⟨_,.head⟩ U)<|ai 13 U (vZ U)<|ai 14 U (bB 0 j7 j9 U U U (tZ ca))<|ai 15 U (dQ jg U)<|ai 16 U (yd (j:=(dq x).toNat) jw Zb U U (wj r0).symm ⟨_,.t2⟩ ((aM _).trans hl2) (by omega))<|ai 17 U (Gv.loadB (j:=(dq x).toNat) Yn U ⟨_,.t2⟩ (ml (by omega) r0))<|ai 18 U (dR U)<|ai 19 U (zy U)<|ai 20 U (zh jf U jh (by decide) U U)<|ai 21 U (zq (c:=.own _ _) jx U ⟨_,.head⟩ U)<|ai 22 U (vZ U)<|ai 23 U (bB 0 j7 j9 U U U (tZ ca))<|ai 24 U (dQ jg U)<|ai 25 U (yd (j:=(dq x).toNat) j7 j9 U U (wj r0).symm ⟨_,.t3⟩ ((aF _).trans hl3) (by omega))<|ai 26 U (yw (j:=(dq x).toNat) jg U ⟨_,.t3⟩ (fR (by omega) r0))<|ai 27 U (BI U)<|ai 28 U (qO U)<|ai 29 U (BI U)<|bI ?_
    exact ⟨(aG s x,pG s x,rG s x),oB,bW,aE,fun _=>rfl⟩
   ·refine zf ?_
    exact ⟨(0,false,-1),oB,bW,aE,fun h=>absurd h (by omega)⟩
  ·rintro ⟨a,p,r⟩ hu
   refine zb<|ae<|bd U<|aj j7 U<|be U U<|z2<|yb (γ:=Int × Bool) [0,3,4,6,7,9,11] (fun u=>[(8,.i u.1),(10,.bool u.2)]) (fun u=>wO f iw ja jb jc jo jt ids s) (fun u=>1<x.args.length→u=(bG s x,qG s x)) ?_ (fun _ _ h=>h) ?_
   ·refine zn U (fun ca=>?_) (fun ca=>?_)
    ·have ca:1<x.args.length:=by omega
     obtain ⟨q0,r0⟩:=hx.a1 ca
     refine zr (fun j=>false) (by kernel_rfl) U (zo (.r (.r (.r (.rest _)))))<|ai 0 U (dR U)<|ai 1 U (zy U)<|ai 2 U (zh jf U Zx (by decide) U U)<|ai 3 U (zq (c:=.own _ _) Ye U ⟨_,.head⟩ U)<|ai 4 U (vZ U)<|ai 5 U (bB 1 j7 j9 U U U (tZ ca))<|ai 6 U (dQ jg U)<|ai 7 U (yd (j:=(eU x).toNat) Z5 Z1 U U (wj r0).symm ⟨_,.t1⟩ ((aF _).trans hl1) (by omega))<|ai 8 U (yw (j:=(eU x).toNat) Zc U ⟨_,.t1⟩ (fR (by omega) r0))<|ai 9 U (dR U)<|ai 10 U (zy U)<|ai 11 U (zh jf U Yg (by decide) U U)<|ai 12 U (zq (c:=.own _ _) Yu U ⟨_,.head⟩ U)<|ai 13 U (vZ U)<|ai 14 U (bB 1 j7 j9 U U U (tZ ca))<|ai 15 U (dQ jg U)<|ai 16 U (yd (j:=(eU x).toNat) jw Zb U U (wj r0).symm ⟨_,.t2⟩ ((aM _).trans hl2) (by omega))<|ai 17 U (Gv.loadB (j:=(eU x).toNat) Yn U ⟨_,.t2⟩ (ml (by omega) r0))<|ai 18 U (BI U)<|ai 19 U (qO U)<|bI ?_
     exact ⟨(bG s x,qG s x),lg,b7,aE,fun _=>rfl⟩
    ·refine zf ?_
     exact ⟨(0,false),lg,b7,aE,fun h=>absurd h (by omega)⟩
   ·rintro ⟨b,q⟩ hw
    refine ae<|ak jd U j9 U U<|aA jg U<|am U<|z2<|ae<|z8 (yt (v:=.str _) U)<|z2<|zi<|ae<|z8 (q7 U U)<|ad U<|z2<|zn U (fun c0=>?_) (fun c0=>?_)
    ·have e:x.op=0:=(aZ hop 0 (by decide) rfl).1 c0
     obtain ⟨d1,d0⟩:=hx.made (by rw[e];decide)
     have hI:ba s x=stI s x.dst x.num:=by rw[de hc];unfold doG;simp[e]
     refine zr (fun j=>Nat.beq j 8) (by kernel_rfl) U (zo (.r (.rest _)))<|ai 0 U (dR U)<|ai 1 U (zy U)<|ai 2 U (zh jf U Zx (by decide) U U)<|ai 3 U (zq (c:=.own _ _) Ye U ⟨_,.head⟩ U)<|ai 4 U (dx U)<|ai 5 U (db jd U Z1 U U)<|ai 6 U (dQ Zc U)<|aN 7 U<|z8 (yd (j:=x.dst.toNat) Z5 Z1 U U (wj d0).symm ⟨_,.head⟩ ((aF _).trans hl1) (by omega))<|z2<|yc<|yk (i:=8) U (by kernel_rfl) (by kernel_rfl)<|q5 (j:=x.dst.toNat) Z1 U U .t1 (by first|omega|(simp;omega))<|z2<|yf (by kernel_rfl)<|yy ?_
     exact ⟨jo,jt,ids,by rw[hI];exact hids,rfl,by rw[hI];rfl⟩
    ·have n0:¬x.op=0:=fun e=>c0 ((aZ hop 0 (by decide) rfl).2 e)
     refine zb<|ae<|z8 (q7 U U)<|ad U<|z2<|yb (γ:=Bool) [0,3,4,6,7,8,9,10,11,12,106] (fun z=>[(117,.bool z)]) (fun z=>wO f iw ja jb jc jo jt ids s) (fun z=>z=decide (x.op=1∨x.op=25∨x.op=26)) ?_ (fun _ _ h=>h) ?_
     ·refine zn U (fun c1=>?_) (fun c1=>?_)
      ·have e:x.op=1:=(aZ hop 1 (by decide) rfl).1 c1
       refine zf ?_
       exact ⟨_,qP,aL,aE,by rw[we c1,e];rfl⟩
      ·have n1:¬x.op=1:=fun e=>c1 ((aZ hop 1 (by decide) rfl).2 e)
       refine ae<|z8 (q7 U U)<|ad U<|z2<|zn U (fun c25=>?_) (fun c25=>?_)
       ·have e:x.op=25:=(aZ hop 25 (by decide) rfl).1 c25
        refine zf ?_
        exact ⟨_,qP,aL,aE,by rw[we c25,e];rfl⟩
       ·have n25:¬x.op=25:=fun e=>c25 ((aZ hop 25 (by decide) rfl).2 e)
        refine aW<|z8 (q7 U U)<|ad U<|z2 ?_
        exact ⟨_,qP,aL,aE,by rw[decide_eq_decide];exact ⟨fun h=>.inr (.inr ((aZ hop 26 (by decide) rfl).1 h)),fun h=>(aZ hop 26 (by decide) rfl).2 ((h.resolve_left n1).resolve_left n25)⟩⟩
     ·rintro z hz
      refine zw U (fun cz=>?_) (fun cz=>?_)
      ·have e:x.op=1∨x.op=25∨x.op=26:=wk (hz.symm.trans cz)
       obtain ⟨d1,d0⟩:=hx.made (by rcases e with e|e|e<;>(rw[e];decide))
       obtain ⟨rfl,rfl,rfl⟩:a=aG s x∧p=pG s x∧r=rG s x:=by have:=hu (by rcases e with e|e|e<;>(rw[hargc,e];decide));simpa using this
       have hI:ba s x=stA (stB (stI s x.dst (aG s x)) x.dst (pG s x)) x.dst (rG s x):=by rw[de hc];unfold doG;rw[if_neg n0,if_pos e]
       refine dV.regionDrawR (by kernel_rfl) U (zo (.r (.l (.l (.l (.l (.l (.l (.rest _)))))))))<|ya (i:=0) U (by kernel_rfl) (by kernel_rfl) (by kernel_rfl) (dR U)<|ya (i:=1) U (by kernel_rfl) (by kernel_rfl) (by kernel_rfl) (zy U)<|ya (i:=2) U (by kernel_rfl) (by kernel_rfl) (by kernel_rfl) (zh jf U Zx (by decide) U U)<|ya (i:=3) U (by kernel_rfl) (by kernel_rfl) (by kernel_rfl) (zq (c:=.own _ _) Ye U ⟨_,.head⟩ U)<|ya (i:=4) U (by kernel_rfl) (by kernel_rfl) (by kernel_rfl) (dx U)<|ya (i:=5) U (by kernel_rfl) (by kernel_rfl) (by kernel_rfl) (dR U)<|ya (i:=6) U (by kernel_rfl) (by kernel_rfl) (by kernel_rfl) (zy U)<|ya (i:=7) U (by kernel_rfl) (by kernel_rfl) (by kernel_rfl) (zh jf U Yg (by decide) U U)<|ya (i:=8) U (by kernel_rfl) (by kernel_rfl) (by kernel_rfl) (zq (c:=.own _ _) Yu U ⟨_,.head⟩ U)<|ya (i:=9) U (by kernel_rfl) (by kernel_rfl) (by kernel_rfl) (dx U)<|ya (i:=10) U (by kernel_rfl) (by kernel_rfl) (by kernel_rfl) (dR U)<|ya (i:=11) U (by kernel_rfl) (by kernel_rfl) (by kernel_rfl) (zy U)<|ya (i:=12) U (by kernel_rfl) (by kernel_rfl) (by kernel_rfl) (zh jf U jh (by decide) U U)<|ya (i:=13) U (by kernel_rfl) (by kernel_rfl) (by kernel_rfl) (zq (c:=.own _ _) jx U ⟨_,.head⟩ U)<|ya (i:=14) U (by kernel_rfl) (by kernel_rfl) (by kernel_rfl) (dx U)<|ya (i:=15) U (by kernel_rfl) (by kernel_rfl) (by kernel_rfl) (dx U)<|ya (i:=16) U (by kernel_rfl) (by kernel_rfl) (by kernel_rfl) (zX U)<|ya (i:=17) U (by kernel_rfl) (by kernel_rfl) (by kernel_rfl) (dx U)<|qw (i:=18) U (by kernel_rfl)<|z8 (yd (j:=x.dst.toNat) Z5 Z1 U U (wj d0).symm ⟨_,.head⟩ ((aF _).trans hl1) (by omega))<|z2<|qw (i:=19) U (by kernel_rfl)<|q5 (j:=x.dst.toNat) Z1 U U .head (by first|omega|(simp;omega))<|z2<|qw (i:=20) U (by kernel_rfl)<|z8 (yd (j:=x.dst.toNat) jw Zb U U (wj d0).symm ⟨_,.t1⟩ ((aM _).trans hl2) (by omega))<|z2<|qw (i:=21) U (by kernel_rfl)<|q6 (j:=x.dst.toNat) Zb U U .t1 (by first|omega|(simp;omega))<|z2<|qw (i:=22) U (by kernel_rfl)<|z8 (yd (j:=x.dst.toNat) j7 j9 U U (wj d0).symm ⟨_,.t2⟩ ((aF _).trans hl3) (by omega))<|z2<|qw (i:=23) U (by kernel_rfl)<|q5 (j:=x.dst.toNat) j9 U U .t2 (by first|omega|(simp;omega))<|z2<|kD.done (by kernel_rfl)<|yy ?_
       exact ⟨jo,jt,ids,by rw[hI];exact hids,rfl,by rw[hI];rfl⟩
      ·have n1:¬(x.op=1∨x.op=25∨x.op=26):=wl (hz.symm.trans cz)
       refine zb<|ae<|z8 (q7 U U)<|ad U<|z2<|yb (γ:=Bool) [0,3,4,6,7,8,9,10,11,12,106] (fun z=>[(142,.bool z)]) (fun z=>wO f iw ja jb jc jo jt ids s) (fun z=>z=decide (x.op=2∨x.op=3∨x.op=4)) ?_ (fun _ _ h=>h) ?_
       ·refine zn U (fun c2=>?_) (fun c2=>?_)
        ·have e:x.op=2:=(aZ hop 2 (by decide) rfl).1 c2
         refine zf ?_
         exact ⟨_,qP,aL,aE,by rw[we c2,e];rfl⟩
        ·have n2:¬x.op=2:=fun e=>c2 ((aZ hop 2 (by decide) rfl).2 e)
         refine ae<|z8 (q7 U U)<|ad U<|z2<|zn U (fun c3=>?_) (fun c3=>?_)
         ·have e:x.op=3:=(aZ hop 3 (by decide) rfl).1 c3
          refine zf ?_
          exact ⟨_,qP,aL,aE,by rw[we c3,e];rfl⟩
         ·have n3:¬x.op=3:=fun e=>c3 ((aZ hop 3 (by decide) rfl).2 e)
          refine aW<|z8 (q7 U U)<|ad U<|z2 ?_
          exact ⟨_,qP,aL,aE,by rw[decide_eq_decide];exact ⟨fun h=>.inr (.inr ((aZ hop 4 (by decide) rfl).1 h)),fun h=>(aZ hop 4 (by decide) rfl).2 ((h.resolve_left n2).resolve_left n3)⟩⟩
       ·rintro z hz2
        refine zw U (fun cz2=>?_) (fun cz2=>?_)
        ·have e:x.op=2∨x.op=3∨x.op=4:=wk (hz2.symm.trans cz2)
         obtain ⟨d1,d0⟩:=hx.made (by rcases e with e|e|e<;>(rw[e];decide))
         obtain ⟨rfl,_,_⟩:a=aG s x∧p=pG s x∧r=rG s x:=by have:=hu (by rcases e with e|e|e<;>(rw[hargc,e];decide));simpa using this
         obtain ⟨rfl,_⟩:b=bG s x∧q=qG s x:=by have:=hw (by rcases e with e|e|e<;>(rw[hargc,e];decide));simpa using this
         obtain ⟨k,hk,hxk⟩:∃k:Nat,k≤2∧x.op - 2=(k:Int):=⟨(x.op - 2).toNat,by omega,by omega⟩
         have hI:ba s x=stI s x.dst (IntKind.i64.wrap (gP k (aG s x) (bG s x))):=by
          rw[de hc];unfold doG;rw[if_neg n0,if_neg n1]
          have:k=0∨k=1∨k=2:=by omega
          rcases this with rfl|rfl|rfl
          ·rw[if_pos (by omega)]
          ·rw[if_neg (by omega),if_pos (by omega)]
          ·rw[if_neg (by omega),if_neg (by omega),if_pos (by omega)]
         have hwr:=Lb (E:=E) hk (x:=aG s x) (y:=bG s x)
         rw[←hxk] at hwr
         refine zr (fun j=>Nat.beq j 12) (by kernel_rfl) U (zo (.r (.rest _)))<|ai 0 U (dR U)<|ai 1 U (zy U)<|ai 2 U (zh jf U Zx (by decide) U U)<|ai 3 U (zq (c:=.own _ _) Ye U ⟨_,.head⟩ U)<|ai 4 U (dx U)<|ai 5 U (db jd U Zs U U)<|ai 6 U (dQ Y2 U)<|ai 7 U (Gv.sub U U (by unfold lz;omega))<|ai 8 U (dx U)<|ai 9 U (dx U)<|aN 10 U<|ze (hwr) U<|z2<|aN 11 U<|z8 (yd (j:=x.dst.toNat) Z5 Z1 U U (wj d0).symm ⟨_,.head⟩ ((aF _).trans hl1) (by omega))<|z2<|yc<|yk (i:=12) U (by kernel_rfl) (by kernel_rfl)<|q5 (j:=x.dst.toNat) Z1 U U .t1 (by first|omega|(simp;omega))<|z2<|yf (by kernel_rfl)<|yy ?_
         exact ⟨jo,jt,ids,by rw[hI];exact hids,rfl,by rw[hI];rfl⟩
        ·have n2:¬(x.op=2∨x.op=3∨x.op=4):=wl (hz2.symm.trans cz2)
         refine zb<|ae<|z8 (q7 U U)<|ad U<|z2<|yb (γ:=Bool) [0,4,6,7,8,9,10,11,12,106] (fun z=>[(158,.bool z)]) (fun z=>wO f iw ja jb jc jo jt ids s) (fun z=>z=decide (x.op=5∨x.op=6)) ?_ (fun _ _ h=>h) ?_
         ·refine zn U (fun c5=>?_) (fun c5=>?_)
          ·have e:x.op=5:=(aZ hop 5 (by decide) rfl).1 c5
           refine zf ?_
           exact ⟨_,iS,aL,aE,by rw[we c5,e];rfl⟩
          ·have n5:¬x.op=5:=fun e=>c5 ((aZ hop 5 (by decide) rfl).2 e)
           refine aW<|z8 (q7 U U)<|ad U<|z2 ?_
           exact ⟨_,iS,aL,aE,by rw[decide_eq_decide];exact ⟨fun h=>.inr ((aZ hop 6 (by decide) rfl).1 h),fun h=>(aZ hop 6 (by decide) rfl).2 (h.resolve_left n5)⟩⟩
         ·rintro z hz3
          refine zw U (fun cz3=>?_) (fun cz3=>?_)
          ·have e:x.op=5∨x.op=6:=wk (hz3.symm.trans cz3)
           obtain ⟨d1,d0⟩:=hx.made (by rcases e with e|e<;>(rw[e];decide))
           obtain ⟨rfl,_,_⟩:a=aG s x∧p=pG s x∧r=rG s x:=by have:=hu (by rcases e with e|e<;>(rw[hargc,e];decide));simpa using this
           obtain ⟨rfl,_⟩:b=bG s x∧q=qG s x:=by have:=hw (by rcases e with e|e<;>(rw[hargc,e];decide));simpa using this
           have hD:doG s x=if bG s x=0 then dO s 2 else stI s x.dst (if x.op=6 then o5 (aG s x) (bG s x) else tQ (aG s x) (bG s x)):=by
            rcases e with e|e<;>(unfold doG;simp[e])
           refine zb<|ae<|aa U<|ao U U<|z2<|zn U (fun c0b=>?_) (fun c0b=>?_)
           ·have hI:ba s x=dO s 2:=by rw[de hc,hD,if_pos (by omega)]
            refine ae<|bb U<|y3 U (zo (.l (.l (.l (.l (.l (.l (.l (.rest _))))))))) (eV f iw ja jb jc jo jt ids s 2) ?_
            rintro r164 O164 ⟨rfl,rfl⟩
            refine z2<|zg<|yy ?_
            exact ⟨jo,jt,ids,by rw[hI];exact hids,rfl,by rw[hI];rfl⟩
           ·have hb0:¬bG s x=0:=by omega
            have hI:ba s x=stI s x.dst (if x.op=6 then o5 (aG s x) (bG s x) else tQ (aG s x) (bG s x)):=by rw[de hc,hD,if_neg hb0]
            refine zf<|ae<|aa U<|aa U<|ze (Lc hb0) U<|z8 (uY U)<|z8 (nC U U)<|z8 (nC U U)<|am U<|am U<|z2<|zb<|ae<|z8 (yt (v:=.str _) U)<|z8 (q7 U U)<|z2<|yb (γ:=Int) [0,12] (fun v=>[(13,.i v)]) (fun v=>wO f iw ja jb jc jo jt ids s) (fun v=>v=if x.op=6 then o5 (aG s x) (bG s x) else tQ (aG s x) (bG s x)) ?_ (fun _ _ h=>h) ?_
            ·refine zn U (fun c6=>?_) (fun c6=>?_)
             ·have e6:x.op=6:=(aZ hop 6 (by decide) rfl).1 c6
              refine aW<|aa U<|am U<|z2 ?_
              exact ⟨_,b7,aL,aE,by rw[if_pos e6];rfl⟩
             ·have e6:¬x.op=6:=fun e=>c6 ((aZ hop 6 (by decide) rfl).2 e)
              refine zf ?_
              exact ⟨_,b7,aL,aE,by rw[if_neg e6];rfl⟩
            ·rintro v hv3
             rw[←hv3] at hI
             refine aW<|bb U<|ax U<|z8 (zh jf U Zx (by decide) U U)<|z8 (zq (c:=.own _ _) Ye U ⟨_,.head⟩ U)<|aa U<|aa U<|z8 (yd (j:=x.dst.toNat) Z5 Z1 U U (wj d0).symm ⟨_,.t1⟩ ((aF _).trans hl1) (by omega))<|q5 (j:=x.dst.toNat) Z1 U U .t1 (by first|omega|(simp;omega))<|z2<|yy ?_
             exact ⟨jo,jt,ids,by rw[hI];exact hids,rfl,by rw[hI];rfl⟩
          ·have n5:¬(x.op=5∨x.op=6):=wl (hz3.symm.trans cz3)
           refine ae<|z8 (q7 U U)<|ad U<|z2<|zn U (fun c7=>?_) (fun c7=>?_)
           ·have e:x.op=7:=(aZ hop 7 (by decide) rfl).1 c7
            obtain ⟨d1,d0⟩:=hx.made (by rw[e];decide)
            obtain ⟨rfl,_,_⟩:a=aG s x∧p=pG s x∧r=rG s x:=by have:=hu (by rw[hargc,e];decide);simpa using this
            obtain ⟨rfl,_⟩:b=bG s x∧q=qG s x:=by have:=hw (by rw[hargc,e];decide);simpa using this
            have hI:ba s x=stB s x.dst (decide (aG s x=bG s x)):=by rw[de hc];unfold doG;simp[e]
            refine aW<|bb U<|ax U<|z8 (zh jf U Yg (by decide) U U)<|z8 (zq (c:=.own _ _) Yu U ⟨_,.head⟩ U)<|aa U<|aa U<|aa U<|ao U U<|z8 (yd (j:=x.dst.toNat) jw Zb U U (wj d0).symm ⟨_,.t2⟩ ((aM _).trans hl2) (by omega))<|q6 (j:=x.dst.toNat) Zb U U .t2 (by first|omega|(simp;omega))<|z2<|yy ?_
            exact ⟨jo,jt,ids,by rw[hI];exact hids,rfl,by rw[hI];rfl⟩
           ·have n7:¬x.op=7:=fun e=>c7 ((aZ hop 7 (by decide) rfl).2 e)
            refine ae<|z8 (q7 U U)<|ad U<|z2<|zn U (fun c8=>?_) (fun c8=>?_)
            ·have e:x.op=8:=(aZ hop 8 (by decide) rfl).1 c8
             obtain ⟨d1,d0⟩:=hx.made (by rw[e];decide)
             obtain ⟨rfl,_,_⟩:a=aG s x∧p=pG s x∧r=rG s x:=by have:=hu (by rw[hargc,e];decide);simpa using this
             obtain ⟨rfl,_⟩:b=bG s x∧q=qG s x:=by have:=hw (by rw[hargc,e];decide);simpa using this
             have hI:ba s x=stB s x.dst (decide (aG s x<bG s x)):=by rw[de hc];unfold doG;simp[e]
             refine aW<|bb U<|ax U<|z8 (zh jf U Yg (by decide) U U)<|z8 (zq (c:=.own _ _) Yu U ⟨_,.head⟩ U)<|aa U<|aa U<|aa U<|ap U U<|z8 (yd (j:=x.dst.toNat) jw Zb U U (wj d0).symm ⟨_,.t2⟩ ((aM _).trans hl2) (by omega))<|q6 (j:=x.dst.toNat) Zb U U .t2 (by first|omega|(simp;omega))<|z2<|yy ?_
             exact ⟨jo,jt,ids,by rw[hI];exact hids,rfl,by rw[hI];rfl⟩
            ·have n8:¬x.op=8:=fun e=>c8 ((aZ hop 8 (by decide) rfl).2 e)
             refine ae<|z8 (q7 U U)<|ad U<|z2<|zn U (fun c9=>?_) (fun c9=>?_)
             ·have e:x.op=9:=(aZ hop 9 (by decide) rfl).1 c9
              obtain ⟨d1,d0⟩:=hx.made (by rw[e];decide)
              obtain ⟨rfl,_,_⟩:a=aG s x∧p=pG s x∧r=rG s x:=by have:=hu (by rw[hargc,e];decide);simpa using this
              obtain ⟨rfl,_⟩:b=bG s x∧q=qG s x:=by have:=hw (by rw[hargc,e];decide);simpa using this
              have hI:ba s x=stB s x.dst (decide (aG s x≤bG s x)):=by rw[de hc];unfold doG;simp[e]
              refine aW<|bb U<|ax U<|z8 (zh jf U Yg (by decide) U U)<|z8 (zq (c:=.own _ _) Yu U ⟨_,.head⟩ U)<|aa U<|aa U<|aa U<|z8 (Gv.leq U U)<|z8 (yd (j:=x.dst.toNat) jw Zb U U (wj d0).symm ⟨_,.t2⟩ ((aM _).trans hl2) (by omega))<|q6 (j:=x.dst.toNat) Zb U U .t2 (by first|omega|(simp;omega))<|z2<|yy ?_
              exact ⟨jo,jt,ids,by rw[hI];exact hids,rfl,by rw[hI];rfl⟩
             ·have n9:¬x.op=9:=fun e=>c9 ((aZ hop 9 (by decide) rfl).2 e)
              refine ae<|z8 (q7 U U)<|ad U<|z2<|zn U (fun c10=>?_) (fun c10=>?_)
              ·have e:x.op=10:=(aZ hop 10 (by decide) rfl).1 c10
               obtain ⟨d1,d0⟩:=hx.made (by rw[e];decide)
               obtain ⟨_,rfl,_⟩:a=aG s x∧p=pG s x∧r=rG s x:=by have:=hu (by rw[hargc,e];decide);simpa using this
               have hI:ba s x=stB s x.dst (!pG s x):=by rw[de hc];unfold doG;simp[e]
               refine aW<|bb U<|ax U<|z8 (zh jf U Yg (by decide) U U)<|z8 (zq (c:=.own _ _) Yu U ⟨_,.head⟩ U)<|aa U<|aq U<|aJ U<|z8 (yd (j:=x.dst.toNat) jw Zb U U (wj d0).symm ⟨_,.t2⟩ ((aM _).trans hl2) (by omega))<|q6 (j:=x.dst.toNat) Zb U U .t2 (by first|omega|(simp;omega))<|z2<|yy ?_
               exact ⟨jo,jt,ids,by rw[hI];exact hids,rfl,by rw[hI];rfl⟩
              ·have n10:¬x.op=10:=fun e=>c10 ((aZ hop 10 (by decide) rfl).2 e)
               refine ae<|z8 (q7 U U)<|ad U<|z2<|zn U (fun c11=>?_) (fun c11=>?_)
               ·have e:x.op=11:=(aZ hop 11 (by decide) rfl).1 c11
                obtain ⟨d1,d0⟩:=hx.made (by rw[e];decide)
                obtain ⟨_,rfl,_⟩:a=aG s x∧p=pG s x∧r=rG s x:=by have:=hu (by rw[hargc,e];decide);simpa using this
                obtain ⟨_,rfl⟩:b=bG s x∧q=qG s x:=by have:=hw (by rw[hargc,e];decide);simpa using this
                have hI:ba s x=stB s x.dst (pG s x&&qG s x):=by rw[de hc];unfold doG;simp[e]
                refine aW<|bb U<|ax U<|z8 (zh jf U Yg (by decide) U U)<|z8 (zq (c:=.own _ _) Yu U ⟨_,.head⟩ U)<|aa U<|aq U<|aq U<|zt (s:=232) U (fun cp=>?_) (fun cp=>?_)
                ·have cp:pG s x=true:=cp
                 rw[cp,Bool.true_and] at hI
                 refine z7 U U cp<|aq U<|au U cp U<|z8 (yd (j:=x.dst.toNat) jw Zb U U (wj d0).symm ⟨_,.t2⟩ ((aM _).trans hl2) (by omega))<|q6 (j:=x.dst.toNat) Zb U U .t2 (by first|omega|(simp;omega))<|z2<|yy ?_
                 exact ⟨jo,jt,ids,by rw[hI];exact hids,rfl,by rw[hI];rfl⟩
                ·have cp:pG s x=false:=cp
                 rw[cp,Bool.false_and] at hI
                 refine z6 U U cp<|aw U cp U<|z8 (yd (j:=x.dst.toNat) jw Zb U U (wj d0).symm ⟨_,.t2⟩ ((aM _).trans hl2) (by omega))<|q6 (j:=x.dst.toNat) Zb U U .t2 (by first|omega|(simp;omega))<|z2<|yy ?_
                 exact ⟨jo,jt,ids,by rw[hI];exact hids,rfl,by rw[hI];rfl⟩
               ·have n11:¬x.op=11:=fun e=>c11 ((aZ hop 11 (by decide) rfl).2 e)
                refine ae<|z8 (q7 U U)<|ad U<|z2<|zn U (fun c12=>?_) (fun c12=>?_)
                ·have e:x.op=12:=(aZ hop 12 (by decide) rfl).1 c12
                 obtain ⟨d1,d0⟩:=hx.made (by rw[e];decide)
                 obtain ⟨_,_,rfl⟩:a=aG s x∧p=pG s x∧r=rG s x:=by have:=hu (by rw[hargc,e];decide);simpa using this
                 have hrr:rG s x<s.arrays.length:=(iG hg (hx.a0 (by rw[hargc,e];decide))).2
                 refine zb<|ae<|aa U<|ap U U<|z2<|zn U (fun cr=>?_) (fun cr=>?_)
                 ·have cr:rG s x<0:=by omega
                  have hI:ba s x=dO s 2:=by rw[de hc];unfold doG;simp[e,cr]
                  refine ae<|bb U<|y3 U (zo (.l (.l (.l (.l (.l (.l (.l (.rest _))))))))) (eV f iw ja jb jc jo jt ids s 2) ?_
                  rintro r241 O241 ⟨rfl,rfl⟩
                  refine z2<|zg<|yy ?_
                  exact ⟨jo,jt,ids,by rw[hI];exact hids,rfl,by rw[hI];rfl⟩
                 ·have cr:¬rG s x<0:=by omega
                  have hI:ba s x=stI s x.dst ((cY s (rG s x)).length):=by rw[de hc];unfold doG;simp[e,cr]
                  obtain ⟨w,hw0⟩:=tg hids (j:=(rG s x).toNat) (by omega)
                  refine zf<|zr (fun j=>Nat.beq j 14) (by kernel_rfl) U (zo (.r (.l (.l (.l (.r (.rest _)))))))<|ai 0 U (dR U)<|ai 1 U (zy U)<|ai 2 U (zh jf U Zx (by decide) U U)<|ai 3 U (zq (c:=.own _ _) Ye U ⟨_,.head⟩ U)<|ai 4 U (dx U)<|ai 5 U (dR U)<|ai 6 U (zy U)<|ai 7 U (zh jf U Yh (by decide) U U)<|ai 8 U (zq (c:=.own _ _) X3 U ⟨_,.head⟩ U)<|ai 9 U (dx U)<|ai 10 U (yd (j:=(rG s x).toNat) Zm Zx U U (wj (Int.not_lt.1 cr)).symm ⟨_,.t1⟩ (jI hids) (by omega))<|ai 11 U (qv (c:=_) Ye U ⟨_,.t1⟩ (iQ hw0 (iF (by omega) hrr)))<|ai 12 U (qp Z5 U)<|aN 13 U<|z8 (yd (j:=x.dst.toNat) Z5 Z1 U U (wj d0).symm ⟨_,.head⟩ ((aF _).trans hl1) (by omega))<|z2<|yc<|yk (i:=14) U (by kernel_rfl) (by kernel_rfl)<|q5 (j:=x.dst.toNat) Z1 U U .t2 (by first|omega|(simp;omega))<|z2<|yf (by kernel_rfl)<|yz (za (zc .t4))<|yz (za (zc .t4))<|yz (za (zc .t4))<|yz (za (zc .t3))<|yy ?_
                  exact ⟨jo,jt,ids,by rw[hI];exact hids,rfl,by rw[hI];rfl⟩
                ·have n12:¬x.op=12:=fun e=>c12 ((aZ hop 12 (by decide) rfl).2 e)
                 refine ae<|z8 (q7 U U)<|ad U<|z2<|zn U (fun c13=>?_) (fun c13=>?_)
                 ·have e:x.op=13:=(aZ hop 13 (by decide) rfl).1 c13
                  obtain ⟨d1,d0⟩:=hx.made (by rw[e];decide)
                  obtain ⟨_,_,rfl⟩:a=aG s x∧p=pG s x∧r=rG s x:=by have:=hu (by rw[hargc,e];decide);simpa using this
                  obtain ⟨rfl,_⟩:b=bG s x∧q=qG s x:=by have:=hw (by rw[hargc,e];decide);simpa using this
                  refine zb<|ae<|bb U<|aa U<|aa U<|y3 U (zo (.l (.l (.l (.l (.l (.l (.l (.rest _))))))))) (mj f iw ja jb jc jo jt ids s (rG s x) (bG s x) hids) ?_
                  rintro r261 O261 ⟨rfl,rfl⟩
                  refine aJ U<|z2<|zw U (fun cp=>?_) (fun cp=>?_)
                  ·have cp:¬dv s (rG s x) (bG s x)=true:=by simpa using cp
                   have hI:ba s x=dO s 2:=by rw[de hc];unfold doG;simp[e,cp]
                   refine ae<|bb U<|y3 U (zo (.l (.l (.l (.l (.l (.l (.l (.rest _))))))))) (eV f iw ja jb jc jo jt ids s 2) ?_
                   rintro r264 O264 ⟨rfl,rfl⟩
                   refine z2<|zg<|yy ?_
                   exact ⟨jo,jt,ids,by rw[hI];exact hids,rfl,by rw[hI];rfl⟩
                  ·have cp:dv s (rG s x) (bG s x)=true:=by simpa using cp
                   obtain ⟨h1,h2,h3,h4⟩:=kx.1 cp
                   obtain ⟨w,hw0⟩:=tg hids (j:=(rG s x).toNat) (by omega)
                   obtain ⟨X,hX1,hX2⟩:=vU IQ ids s.arrays _ hw0 (iF h1 h2)
                   have hI:ba s x=stI s x.dst (vi (cY s (rG s x)) (bG s x)):=by rw[de hc];unfold doG;simp[e,cp]
                   refine y7 (aR.bagOut (i:=w) (o:=.grow 1 2 (cI (cY s (rG s x)))) (X':=X) (hX1) .t6)<|zf<|zr (fun j=>Nat.beq j 16) (by kernel_rfl) U (zo (.r (.r (.l (.l (.l (.r (.rest _))))))))<|ai 0 U (dR U)<|ai 1 U (zy U)<|ai 2 U (zh jf U Zx (by decide) U U)<|ai 3 U (zq (c:=.own _ _) Ye U ⟨_,.t1⟩ U)<|ai 4 U (dx U)<|ai 5 U (dR U)<|ai 6 U (zy U)<|ai 7 U (zh jf U Yh (by decide) U U)<|ai 8 U (zq (c:=.own _ _) X3 U ⟨_,.t1⟩ U)<|ai 9 U (dx U)<|ai 10 U (yd (j:=(rG s x).toNat) Zm Zx U U (wj h1).symm ⟨_,.t2⟩ (jI hids) (by omega))<|ai 11 U (qv (c:=_) Ye U ⟨_,.t2⟩ (iQ hw0 (iF h1 h2)))<|ai 12 U (dx U)<|ai 13 U (yd (j:=(bG s x).toNat) Z5 Z1 U U (wj h3).symm ⟨_,.head⟩ (aF _) (by omega))<|ai 14 U (yw (j:=(bG s x).toNat) Zc U ⟨_,.head⟩ (fR h4 h3))<|aN 15 U<|z8 (yd (j:=x.dst.toNat) Z5 Z1 U U (wj d0).symm ⟨_,.head⟩ ((aF _).trans hl1) (by omega))<|z2<|yc<|yk (i:=16) U (by kernel_rfl) (by kernel_rfl)<|q5 (j:=x.dst.toNat) Z1 U U .t3 (by first|omega|(simp;omega))<|z2<|yf (by kernel_rfl)<|yz (aR.bagIn (X':=tf ids s.arrays) .head (hX1.symm) .t6)<|yz (za (zc .t4))<|yz (za (zc .t4))<|yz (za (zc .t4))<|yz (za (zc .t3))<|yy ?_
                   exact ⟨jo,jt,ids,by rw[hI];exact hids,rfl,by rw[hI];rfl⟩
                 ·have n13:¬x.op=13:=fun e=>c13 ((aZ hop 13 (by decide) rfl).2 e)
                  refine ae<|z8 (q7 U U)<|ad U<|z2<|zn U (fun c14=>?_) (fun c14=>?_)
                  ·have e:x.op=14:=(aZ hop 14 (by decide) rfl).1 c14
                   obtain ⟨_,_,rfl⟩:a=aG s x∧p=pG s x∧r=rG s x:=by have:=hu (by rw[hargc,e];decide);simpa using this
                   obtain ⟨rfl,_⟩:b=bG s x∧q=qG s x:=by have:=hw (by rw[hargc,e];decide);simpa using this
                   obtain ⟨q2,r2⟩:=hx.a2 (by rw[hargc,e];decide)
                   have hal:2<x.args.length:=by rw[hargc,e];decide
                   refine zb<|ae<|bb U<|aa U<|aa U<|y3 U (zo (.l (.l (.l (.l (.l (.l (.l (.rest _))))))))) (mj f iw ja jb jc jo jt ids s (rG s x) (bG s x) hids) ?_
                   rintro r286 O286 ⟨rfl,rfl⟩
                   refine aJ U<|z2<|zw U (fun cp=>?_) (fun cp=>?_)
                   ·have cp:¬dv s (rG s x) (bG s x)=true:=by simpa using cp
                    have hI:ba s x=dO s 2:=by rw[de hc];unfold doG;simp[e,cp]
                    refine ae<|bb U<|y3 U (zo (.l (.l (.l (.l (.l (.l (.l (.rest _))))))))) (eV f iw ja jb jc jo jt ids s 2) ?_
                    rintro r289 O289 ⟨rfl,rfl⟩
                    refine z2<|zg<|yy ?_
                    exact ⟨jo,jt,ids,by rw[hI];exact hids,rfl,by rw[hI];rfl⟩
                   ·have cp:dv s (rG s x) (bG s x)=true:=by simpa using cp
                    obtain ⟨h1,h2,h3,h4⟩:=kx.1 cp
                    obtain ⟨w,hw0⟩:=tg hids (j:=(rG s x).toNat) (by omega)
                    obtain ⟨X,hX1,hX2⟩:=vU IQ ids s.arrays _ hw0 (iF h1 h2)
                    have hI:ba s x={ s with arrays:=s.arrays.set (rG s x).toNat ((cY s (rG s x)).set (bG s x).toNat (vi s.ints (Aa x))) }:=by rw[de hc];unfold doG;simp[e,cp]
                    refine y7 (aR.bagOut (i:=w) (o:=.grow 1 2 (cI (cY s (rG s x)))) (X':=X) (hX1) .t6)<|zf<|zr (fun j=>Nat.beq j 18) (by kernel_rfl) U (zo (.l (.r (.r (.l (.l (.r (.rest _))))))))<|ai 0 U (dR U)<|ai 1 U (zy U)<|ai 2 U (zh jf U Yh (by decide) U U)<|ai 3 U (zq (c:=.own _ _) X3 U ⟨_,.head⟩ U)<|ai 4 U (dx U)<|ai 5 U (yd (j:=(rG s x).toNat) Zm Zx U U (wj h1).symm ⟨_,.t2⟩ (jI hids) (by omega))<|ai 6 U (qv (c:=_) Ye U ⟨_,.t2⟩ (iQ hw0 (iF h1 h2)))<|ai 7 U (dx U)<|ai 8 U (dR U)<|ai 9 U (zy U)<|ai 10 U (zh jf U Zx (by decide) U U)<|ai 11 U (zq (c:=.own _ _) Ye U ⟨_,.head⟩ U)<|ai 12 U (vZ U)<|ai 13 U (bB 2 j7 j9 U U U (tZ hal))<|ai 14 U (dQ jg U)<|ai 15 U (yd (j:=(Aa x).toNat) Z5 Z1 U U (wj r2).symm ⟨_,.t1⟩ ((aF _).trans hl1) (by omega))<|ai 16 U (yw (j:=(Aa x).toNat) Zc U ⟨_,.t1⟩ (fR (by omega) r2))<|aN 17 U<|z8 (yd (j:=(bG s x).toNat) Z5 Z1 U U (wj h3).symm ⟨_,.head⟩ (aF _) (by omega))<|z2<|yc<|yk (i:=18) U (by kernel_rfl) (by kernel_rfl)<|q5 (j:=(bG s x).toNat) Z1 U U .t3 (by first|omega|(simp;omega))<|z2<|yf (by kernel_rfl)<|yz (aR.bagIn (X':=tf ids (s.arrays.set (rG s x).toNat ((cY s (rG s x)).set (bG s x).toNat (vi s.ints (Aa x))))) .t3 ((by have:=hX2 w ((cY s (rG s x)).set (bG s x).toNat (vi s.ints (Aa x)));rw[G7 hw0] at this;exact this)) .t6)<|yz (za (zc .t2))<|yz (za (zc .t4))<|yz (za (zc .t4))<|yz (za (zc .t4))<|yz (za (zc .t4))<|yy ?_
                    exact ⟨jo,jt,ids,by rw[hI];simpa using hids,rfl,by rw[hI];unfold wO wR IR;rw[zV (iF h1 h2) (List.length_set ..)];simp⟩
                  ·have n14:¬x.op=14:=fun e=>c14 ((aZ hop 14 (by decide) rfl).2 e)
                   refine ae<|z8 (q7 U U)<|ad U<|z2<|zn U (fun c15=>?_) (fun c15=>?_)
                   ·have e:x.op=15:=(aZ hop 15 (by decide) rfl).1 c15
                    obtain ⟨d1,d0⟩:=hx.made (by rw[e];decide)
                    obtain ⟨rfl,_,_⟩:a=aG s x∧p=pG s x∧r=rG s x:=by have:=hu (by rw[hargc,e];decide);simpa using this
                    refine zi<|zb<|yb (γ:=Bool) [0,7,12] (fun z=>[(333,.bool z)]) (fun z=>wO f iw ja jb jc jo jt ids s) (fun z=>z=decide (aG s x<0∨64<aG s x)) ?_ (fun _ _ h=>h) ?_
                    ·refine aW<|aa U<|ap U U<|aq U<|zt (s:=336) U (fun cn=>?_) (fun cn=>?_)
                     ·have cn2:aG s x<0:=by simpa using cn
                      refine z6 U U cn<|z6 U U cn<|au U cn U<|ad U<|z2 ?_
                      exact ⟨_,bW,aL,aE,by rw[we (.inl cn2)]⟩
                     ·have cn2:¬aG s x<0:=by simpa using cn
                      refine z7 U U cn<|aa U<|z7 U U cn<|be U U<|aw U cn U<|ad U<|z2 ?_
                      exact ⟨_,bW,aL,aE,by rw[decide_eq_decide];exact ⟨fun h=>.inr h,fun h=>h.resolve_left cn2⟩⟩
                    ·rintro z hz4
                     refine zw U (fun cz4=>?_) (fun cz4=>?_)
                     ·have cz4:aG s x<0∨64<aG s x:=wk (hz4.symm.trans cz4)
                      have hI:ba s x=dO s 2:=by rw[de hc];unfold doG;simp[e,cz4]
                      refine aW<|bb U<|y3 U (zo (.l (.l (.l (.l (.l (.l (.l (.rest _))))))))) (eV f iw ja jb jc jo jt ids s 2) ?_
                      rintro r341 O341 ⟨rfl,rfl⟩
                      refine z2<|yy ?_
                      exact ⟨jo,jt,ids,by rw[hI];exact hids,rfl,by rw[hI];rfl⟩
                     ·have cz4:¬(aG s x<0∨64<aG s x):=wl (hz4.symm.trans cz4)
                      refine ae<|bb U<|ax U<|z8 (zh jf U Yh (by decide) U U)<|z8 (zq (c:=.own _ _) X3 U ⟨_,.head⟩ U)<|z8 (qp Zm U)<|z8 (q9 U U)<|ad U<|z2<|zn U (fun c32=>?_) (fun c32=>?_)
                      ·have c32:32≤s.arrays.length:=by omega
                       have hI:ba s x=dO s 3:=by rw[de hc];unfold doG;rw[e,if_neg (by decide),if_neg (by decide),if_neg (by decide),if_neg (by decide),if_neg (by decide),if_neg (by decide),if_neg (by decide),if_neg (by decide),if_neg (by decide),if_neg (by decide),if_neg (by decide),if_neg (by decide),if_neg (by decide),if_neg (by decide),if_neg (by decide),if_pos rfl,if_neg cz4,if_pos c32]
                       refine aW<|bb U<|y3 U (zo (.l (.l (.l (.l (.l (.l (.l (.rest _))))))))) (eV f iw ja jb jc jo jt ids s 3) ?_
                       rintro r350 O350 ⟨rfl,rfl⟩
                       refine z2<|yy ?_
                       exact ⟨jo,jt,ids,by rw[hI];exact hids,rfl,by rw[hI];rfl⟩
                      ·have c32:¬32≤s.arrays.length:=by omega
                       have hI:ba s x=stA { s with arrays:=s.arrays++[List.replicate (aG s x).toNat 0] } x.dst s.arrays.length:=by rw[de hc];unfold doG;rw[e,if_neg (by decide),if_neg (by decide),if_neg (by decide),if_neg (by decide),if_neg (by decide),if_neg (by decide),if_neg (by decide),if_neg (by decide),if_neg (by decide),if_neg (by decide),if_neg (by decide),if_neg (by decide),if_neg (by decide),if_neg (by decide),if_neg (by decide),if_pos rfl,if_neg cz4,if_neg c32]
                       refine zb<|zr (fun j=>Nat.beq j 11) (by kernel_rfl) U (zo (.r (.rest _)))<|ai 0 U (dR U)<|ai 1 U (dR U)<|ai 2 U (zy U)<|ai 3 U (zh jf U Yh (by decide) U U)<|ai 4 U (zq (c:=.own _ _) X3 U ⟨_,.head⟩ U)<|ai 5 U (dx U)<|aN 6 U<|qt (m:=(aG s x).toNat) Z5 X8 U U U U U (by omega) (by omega) (by show (8:Int)*_≤_;omega) (by omega)<|fun i316=>z2<|aN 7 U<|zx (rows:=[[_]]) G6 U U U U U<|z2<|aN 8 U<|yg (k:=1) Zm type66 U U U U U (fun _=>.t4) (by rw[jI hids];omega) (by decide) U (by show (_+1)*24≤_;omega) (by show _+1≤_;omega)<|fun i318=>z2<|yv (i:=9) U (by kernel_rfl) (by kernel_rfl) (by kernel_rfl) (by kernel_rfl) (zy U)<|ai 10 U (zh jf U Yh (by decide) U U)<|yc<|yk (i:=11) U (by kernel_rfl) (by kernel_rfl)<|yn (l:=[_]) (new:=[_,_,_,_,_,_,_,_,_,_,_,_,_,_,_,_,_,_,_,_,_,_,_]) Yh U U U U U U .head U U<|z2<|yf (by kernel_rfl)<|y7 (aR.bagIn (X':=tf (ids++[i316]) (s.arrays++[List.replicate (aG s x).toNat 0])) .t1 (zW i316 _ hids) .t6)<|zr (fun j=>Nat.beq j 12) (by kernel_rfl) U (zo (.r (.rest _)))<|ai 0 U (dR U)<|ai 1 U (zy U)<|ai 2 U (zh jf U jh (by decide) U U)<|ai 3 U (zq (c:=.own _ _) jx U ⟨_,.head⟩ U)<|ai 4 U (dx U)<|ai 5 U (dR U)<|ai 6 U (zy U)<|ai 7 U (zh jf U Yh (by decide) U U)<|ai 8 U (zq (c:=.own _ _) X3 U ⟨_,.head⟩ U)<|ai 9 U (qp Zm U)<|ai 10 U (Gv.sub U U (by unfold lz;simp only[List.length_cons,List.length_nil];omega))<|aN 11 U<|z8 (yd (j:=x.dst.toNat) j7 j9 U U (wj d0).symm ⟨_,.t2⟩ ((aF _).trans hl3) (by omega)) ?_
                       refine z2<|yc<|yk (i:=12) U (by kernel_rfl) (by kernel_rfl)<|q5 (j:=x.dst.toNat) j9 U U .t3 (by first|omega|(simp;omega))<|z2<|yf (by kernel_rfl)<|yz (za (zc .t5))<|yz (za (zc .t5))<|yz (za (zc .t5))<|yz (za (zc .t5))<|yz (za (zc .t5))<|yz (za (zc .t5))<|yy ?_
                       exact ⟨i318,jt,ids++[i316],by rw[hI];simp[stA,hids],rfl,by rw[hI];exact KD f iw ja jb jc i318 jt hids i316 (aG s x).toNat x.dst _ (by simp only[List.length_cons,List.length_nil];omega)⟩
                   ·have n15:¬x.op=15:=fun e=>c15 ((aZ hop 15 (by decide) rfl).2 e)
                    refine ae<|z8 (q7 U U)<|ad U<|z2<|zn U (fun c16=>?_) (fun c16=>?_)
                    ·have e:x.op=16:=(aZ hop 16 (by decide) rfl).1 c16
                     obtain ⟨d1,d0⟩:=hx.made (by rw[e];decide)
                     have hI:ba s x=stA s x.dst (-1):=by rw[de hc];unfold doG;simp[e]
                     refine aW<|bb U<|ax U<|z8 (zh jf U jh (by decide) U U)<|z8 (zq (c:=.own _ _) jx U ⟨_,.head⟩ U)<|aa U<|z8 (yd (j:=x.dst.toNat) j7 j9 U U (wj d0).symm ⟨_,.t3⟩ ((aF _).trans hl3) (by omega))<|q5 (j:=x.dst.toNat) j9 U U .t3 (by first|omega|(simp;omega))<|z2<|yy ?_
                     exact ⟨jo,jt,ids,by rw[hI];exact hids,rfl,by rw[hI];rfl⟩
                    ·have n16:¬x.op=16:=fun e=>c16 ((aZ hop 16 (by decide) rfl).2 e)
                     refine ae<|z8 (q7 U U)<|ad U<|z2<|zn U (fun c17=>?_) (fun c17=>?_)
                     ·have e:x.op=17:=(aZ hop 17 (by decide) rfl).1 c17
                      obtain ⟨rfl,_,_⟩:a=aG s x∧p=pG s x∧r=rG s x:=by have:=hu (by rw[hargc,e];decide);simpa using this
                      refine zb<|ae<|bb U<|ax U<|z8 (zh jf U Yb (by decide) U U)<|z8 (zh Zk U Zx (by decide) U U)<|z8 (zq (c:=.own _ _) Ye U ⟨_,.head⟩ U)<|z8 (qp Z5 U)<|z8 (q9 U U)<|z2<|zn U (fun ct=>?_) (fun ct=>?_)
                      ·have ct:4096≤s.trace.length:=by omega
                       have hI:ba s x=dO s 3:=by rw[de hc];unfold doG;simp[e,ct]
                       refine ae<|bb U<|y3 U (zo (.l (.l (.l (.l (.l (.l (.l (.rest _))))))))) (eV f iw ja jb jc jo jt ids s 3) ?_
                       rintro r369 O369 ⟨rfl,rfl⟩
                       refine z2<|zg<|yy ?_
                       exact ⟨jo,jt,ids,by rw[hI];exact hids,rfl,by rw[hI];rfl⟩
                      ·have ct:¬4096≤s.trace.length:=by omega
                       have hI:ba s x={ s with trace:=s.trace++[aG s x] }:=by rw[de hc];unfold doG;simp[e,ct]
                       refine zf<|aW<|bb U<|bb U<|ax U<|z8 (zh jf U Yb (by decide) U U)<|z8 (zh Zk U Zx (by decide) U U)<|z8 (zq (c:=.own _ _) Ye U ⟨_,.head⟩ U)<|aa U<|zx (rows:=[[_]]) KC U U U U U<|yg (k:=1) Z5 X8 U U U U U (fun _=>.t5) (by rw[aF];omega) (by decide) U (by show (_+1)*8≤_;omega) (by show _+1≤_;omega)<|fun i378=>ax U<|z8 (zh jf U Yb (by decide) U U)<|z8 (zh Zk U Zx (by decide) U U)<|yn (l:=[_]) (new:=[_,_,_,_,_,_,_,_,_,_,_,_,_,_,_,_,_,_,_,_,_,_,_]) Zx U U U U U U .head U U<|z2<|yy ?_
                       exact ⟨jo,i378,ids,by rw[hI];exact hids,rfl,by rw[hI];exact KE f iw ja jb jc jo i378 _⟩
                     ·exfalso
                      have n17:¬x.op=17:=fun e=>c17 ((aZ hop 17 (by decide) rfl).2 e)
                      omega
end Go.Proofs.YtbbonnfjealmpaaGreatDoor
