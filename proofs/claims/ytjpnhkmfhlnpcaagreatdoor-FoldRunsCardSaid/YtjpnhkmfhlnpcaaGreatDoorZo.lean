/- An instruction of the document's machine. Of programs as they are run. -/
import Derived.Test.YtjpnhkmfhlnpcaaGreatDoorZn
set_option linter.unusedVariables false
set_option linter.unusedSimpArgs false
set_option linter.unusedSectionVars false
namespace Go.Proofs.YtjpnhkmfhlnpcaaGreatDoor
open Go.Proofs.Tryz
open Go.Proofs Go.Lib Go.Shelf Go.RowKit
theorem EG:dw prog 36 44 1 1 [.raw (.slice none 0 0)]:=⟨_,Z9,Za,zeroValue44,by decide,by decide,by kernel_rfl⟩
theorem Jh:dw prog 44 2 1 1 [.int .i64 0]:=⟨_,jr,Z8,zeroValue2,by decide,by decide,by kernel_rfl⟩
variable {E:World}
set_option maxRecDepth 20000
theorem b9 {s:GS} {x:bc} (h:¬(18≤x.op∧x.op≤24)):bV s x=doG s x:=by unfold bV;rw[if_neg h]
theorem pF {l:List Bool} {v:Int} (h1:v<l.length) (_:0≤v):l[v.toNat]?=some (gb l v):=by
 unfold gb;rw[qq (by omega)];rfl
theorem EH {α:Type}:∀{l:List α} {j:Nat} {a:α},l[j]?=some a→l.set j a=l
 |[],_,_,h=>by simp at h
 |_::_,0,_,h=>by simp at h;subst h;rfl
 |_::l,j+1,a,h=>by rw[List.set_cons_succ,EH (l:=l) (by simpa using h)]
theorem uJ:∀{ids:List Nat} {rs:List (List Int)} {j:Nat} {r r':List Int},rs[j]?=some r→r'.length=r.length→gm ids (rs.set j r')=gm ids rs
 |[],_,_,_,_,_,_=>rfl
 |_::_,[],_,_,_,h,_=>by simp at h
 |i::ids,r0::rs,0,r,r',h,hl=>by
  simp at h
  subst h
  show AV.own i r'.length::_=AV.own i r0.length::_
  rw[hl]
 |i::ids,r0::rs,j+1,r,r',h,hl=>by
  show AV.own i r0.length::gm ids (rs.set j r')=AV.own i r0.length::gm ids rs
  rw[uJ (by simpa using h) hl]
theorem rP {ids:List Nat} {rs:List (List Int)} (i:Nat) (r:List Int) (h:ids.length=rs.length):gm ids rs++[AV.own i r.length]=gm (ids++[i]) (rs++[r]):=by
 unfold gm;rw[List.zipWith_append h];rfl
theorem uK {ids:List Nat} {rs:List (List Int)} (i:Nat) (r:List Int) (h:ids.length=rs.length):(GQ i r::pE ids rs).Perm (pE (ids++[i]) (rs++[r])):=by
 unfold pE;rw[List.zipWith_append h];exact List.perm_append_comm (l₁:=[_])
theorem Ji (f:ab) (iw ja jb jc jo jt:Nat) {ids:List Nat} {s:GS} (h:ids.length=s.arrays.length) (i m:Nat) (d v:Int) (hv:v=s.arrays.length):(iw,bF.cells 52 (bQ f++[.own ja f.vars.length,.own jb f.vars.length,.own jc f.vars.length,.own jo (s.arrays.length+1),.int .i64 s.blk,.int .i64 s.pc,.int .i64 s.en,.int .i64 s.val,.int .i64 s.tr,.own jt s.trace.length,.int .i64 s.st,.int .i64 (s.ck 0),.int .i64 (s.ck 1),.int .i64 (s.ck 2),.int .i64 (s.ck 3),.int .i64 (s.ck 4),.int .i64 (s.ck 5),.int .i64 (s.ck 6),.int .i64 (s.ck 7),.bool s.ended]))::(ja,.grow 1 2 (cI s.ints))::(jb,.grow 1 4 (cB s.bools))::(jc,.grow 1 3 (cI (s.arrs.set d.toNat v)))::(jo,.grow 1 44 (gm ids s.arrays++[.own i m]))::(jt,.grow 1 2 (cI s.trace))::[(0,ur (pE (ids++[i]) (s.arrays++[List.replicate m 0])))]=wO f iw ja jb jc jo jt (ids++[i]) (stA { s with arrays:=s.arrays++[List.replicate m 0] } d s.arrays.length):=by
 subst hv
 unfold wO wR GR stA
 rw[←rP i (List.replicate m 0) h]
 simp only[qw,List.length_singleton,List.length_replicate]
theorem Jj (f:ab) (iw ja jb jc jo jt:Nat) {ids:List Nat} {s:GS} (a:Int):(iw,bF.cells 52 (bQ f++[.own ja f.vars.length,.own jb f.vars.length,.own jc f.vars.length,.own jo s.arrays.length,.int .i64 s.blk,.int .i64 s.pc,.int .i64 s.en,.int .i64 s.val,.int .i64 s.tr,.own jt (s.trace.length+1),.int .i64 s.st,.int .i64 (s.ck 0),.int .i64 (s.ck 1),.int .i64 (s.ck 2),.int .i64 (s.ck 3),.int .i64 (s.ck 4),.int .i64 (s.ck 5),.int .i64 (s.ck 6),.int .i64 (s.ck 7),.bool s.ended]))::(ja,.grow 1 2 (cI s.ints))::(jb,.grow 1 4 (cB s.bools))::(jc,.grow 1 3 (cI s.arrs))::(jo,.grow 1 44 (gm ids s.arrays))::(jt,.grow 1 2 (cI s.trace++[.int .i64 a]))::[(0,ur (pE ids s.arrays))]=wO f iw ja jb jc jo jt ids { s with trace:=s.trace++[a] }:=by
 unfold wO wR GR
 rw[show cI s.trace++[AV.int .i64 a]=cI (s.trace++[a]) from oM s.trace [a]]
 simp only[qw,List.length_singleton]
set_option maxHeartbeats 16000000 in
theorem wl (f:ab) (iw ja jb jc jo jt:Nat) (ids:List Nat) (s:GS) (x:bc) (hids:ids.length=s.arrays.length) (hg:bB f s) (hx:eu f x) (hv:f.vars.length≤1000) (hck:∀i,s.ck i≤1000000000):bY prog E 30 [.po iw 0,.agg (bz x)] (wO f iw ja jb jc jo jt ids s) (fun y O=>∃jo' jt' ids',ids'.length=(bV s x).arrays.length∧y=.tup []∧O=wO f iw ja jb jc jo' jt' ids' (bV s x)):=by
 have hop:=hx.op
 have hl1:=hg.li
 have hl2:=hg.lb
 have hl3:=hg.la
 have hargc:=hx.argc
 obtain ⟨t,ht⟩:∃t,(if 18≤x.op∧x.op≤24 then x.op - 17 else 0)=t:=⟨_,rfl⟩
 have hchk:=uI (E:=E) x.op hop
 rw[ht] at hchk
 refine zo func30 Z (by decide) Z<|ah<|yb (cs:=_) Z Z Z<|z7<|zb<|zq (fun j=>false) (by kernel_rfl) Z (zu (.rest _))<|ak 1 Z (eK jp Z Zz Z Z)<|ak 2 Z (gH Y5 Z)<|bO 0 Z<|zi (ig) Z<|z7<|ak 3 Z (cH x.op.toNat Ym Y8 Z Z (by omega) (pq hop))<|ak 4 Z (eK Zp Z Zh Z Z)<|ak 5 Z (qg (c:=.str _) Zr Z)<|ak 6 Z (yd (v:=.str _) Z)<|eG<|zb<|ah<|aq jp Z Zz Z Z<|aE Y5 Z<|zi (hchk) Z<|aw Z<|z7<|ah<|aa Z<|za (yy Z Z)<|z7<|zm Z (fun c=>?_) (fun c=>?_)
 ·have hc:18≤x.op∧x.op≤24:=by
   refine Classical.byContradiction fun hn=>?_
   rw[if_neg hn] at ht;omega
  rw[if_pos hc] at ht
  refine zb<|yq (γ:=Nat) [0,3,4,5] (fun g=>[]) (fun g=>wO f iw ja jb jc jo jt ids (ij s g)) (fun g=>(g:Int)=t) ?_ (fun _ _ h=>h) ?_
  ·have ht7:t=1∨t=2∨t=3∨t=4∨t=5∨t=6∨t=7:=by omega
   rcases ht7 with h7|h7|h7|h7|h7|h7|h7
   ·have hb:=hck 1
    refine zq (fun j=>Nat.beq j 12) (by kernel_rfl) Z (zu (.rest _))<|ak 0 Z (eU Z)<|ak 1 Z (d9 Z)<|ak 2 Z (zw Z)<|ak 3 Z (zc jf Z Z7 (by decide) Z Z)<|ak 4 Z (zc jy Z Zx (by decide) Z Z)<|ak 5 Z (qb (j:=1) Zj je Z Z h7 (by decide) Z)<|yr (i:=8) Z (by kernel_rfl) (by kernel_rfl) (by kernel_rfl) (by kernel_rfl) (zw Z)<|yr (i:=9) Z (by kernel_rfl) (by kernel_rfl) (by kernel_rfl) (by kernel_rfl) (zc jf Z Z7 (by decide) Z Z)<|yr (i:=10) Z (by kernel_rfl) (by kernel_rfl) (by kernel_rfl) (by kernel_rfl) (zc jy Z Zx (by decide) Z Z)<|bO 6 Z<|za (zj (c:=.int _ _) jj Z ⟨_,.head⟩ Z)<|z7<|ak 7 Z (Io Z Z)<|ak 11 Z (qb (j:=1) Zj je Z Z h7 (by decide) Z)<|yi<|yk (i:=12) Z (by kernel_rfl) (by kernel_rfl)<|yg (l:=[_]) (new:=[_,_,_,_,_,_,_,_,_,_,_,_,_,_,_,_,_,_,_,_,_,_,_]) je Z Z Z Z Z Z .head Z Z<|z7<|yl (by kernel_rfl) ?_
    exact ⟨1,gY,trivial,aN,by rw[h7];rfl⟩
   ·have hb:=hck 2
    refine zq (fun j=>Nat.beq j 12) (by kernel_rfl) Z (zu (.rest _))<|ak 0 Z (eU Z)<|ak 1 Z (d9 Z)<|ak 2 Z (zw Z)<|ak 3 Z (zc jf Z Z7 (by decide) Z Z)<|ak 4 Z (zc jy Z Zx (by decide) Z Z)<|ak 5 Z (qb (j:=2) Zj je Z Z h7 (by decide) Z)<|yr (i:=8) Z (by kernel_rfl) (by kernel_rfl) (by kernel_rfl) (by kernel_rfl) (zw Z)<|yr (i:=9) Z (by kernel_rfl) (by kernel_rfl) (by kernel_rfl) (by kernel_rfl) (zc jf Z Z7 (by decide) Z Z)<|yr (i:=10) Z (by kernel_rfl) (by kernel_rfl) (by kernel_rfl) (by kernel_rfl) (zc jy Z Zx (by decide) Z Z)<|bO 6 Z<|za (zj (c:=.int _ _) jj Z ⟨_,.head⟩ Z)<|z7<|ak 7 Z (Io Z Z)<|ak 11 Z (qb (j:=2) Zj je Z Z h7 (by decide) Z)<|yi<|yk (i:=12) Z (by kernel_rfl) (by kernel_rfl)<|yg (l:=[_]) (new:=[_,_,_,_,_,_,_,_,_,_,_,_,_,_,_,_,_,_,_,_,_,_,_]) je Z Z Z Z Z Z .head Z Z<|z7<|yl (by kernel_rfl) ?_
    exact ⟨2,gY,trivial,aN,by rw[h7];rfl⟩
   ·have hb:=hck 3
    refine zq (fun j=>Nat.beq j 12) (by kernel_rfl) Z (zu (.rest _))<|ak 0 Z (eU Z)<|ak 1 Z (d9 Z)<|ak 2 Z (zw Z)<|ak 3 Z (zc jf Z Z7 (by decide) Z Z)<|ak 4 Z (zc jy Z Zx (by decide) Z Z)<|ak 5 Z (qb (j:=3) Zj je Z Z h7 (by decide) Z)<|yr (i:=8) Z (by kernel_rfl) (by kernel_rfl) (by kernel_rfl) (by kernel_rfl) (zw Z)<|yr (i:=9) Z (by kernel_rfl) (by kernel_rfl) (by kernel_rfl) (by kernel_rfl) (zc jf Z Z7 (by decide) Z Z)<|yr (i:=10) Z (by kernel_rfl) (by kernel_rfl) (by kernel_rfl) (by kernel_rfl) (zc jy Z Zx (by decide) Z Z)<|bO 6 Z<|za (zj (c:=.int _ _) jj Z ⟨_,.head⟩ Z)<|z7<|ak 7 Z (Io Z Z)<|ak 11 Z (qb (j:=3) Zj je Z Z h7 (by decide) Z)<|yi<|yk (i:=12) Z (by kernel_rfl) (by kernel_rfl)<|yg (l:=[_]) (new:=[_,_,_,_,_,_,_,_,_,_,_,_,_,_,_,_,_,_,_,_,_,_,_]) je Z Z Z Z Z Z .head Z Z<|z7<|yl (by kernel_rfl) ?_
    exact ⟨3,gY,trivial,aN,by rw[h7];rfl⟩
   ·have hb:=hck 4
    refine zq (fun j=>Nat.beq j 12) (by kernel_rfl) Z (zu (.rest _))<|ak 0 Z (eU Z)<|ak 1 Z (d9 Z)<|ak 2 Z (zw Z)<|ak 3 Z (zc jf Z Z7 (by decide) Z Z)<|ak 4 Z (zc jy Z Zx (by decide) Z Z)<|ak 5 Z (qb (j:=4) Zj je Z Z h7 (by decide) Z)<|yr (i:=8) Z (by kernel_rfl) (by kernel_rfl) (by kernel_rfl) (by kernel_rfl) (zw Z)<|yr (i:=9) Z (by kernel_rfl) (by kernel_rfl) (by kernel_rfl) (by kernel_rfl) (zc jf Z Z7 (by decide) Z Z)<|yr (i:=10) Z (by kernel_rfl) (by kernel_rfl) (by kernel_rfl) (by kernel_rfl) (zc jy Z Zx (by decide) Z Z)<|bO 6 Z<|za (zj (c:=.int _ _) jj Z ⟨_,.head⟩ Z)<|z7<|ak 7 Z (Io Z Z)<|ak 11 Z (qb (j:=4) Zj je Z Z h7 (by decide) Z)<|yi<|yk (i:=12) Z (by kernel_rfl) (by kernel_rfl)<|yg (l:=[_]) (new:=[_,_,_,_,_,_,_,_,_,_,_,_,_,_,_,_,_,_,_,_,_,_,_]) je Z Z Z Z Z Z .head Z Z<|z7<|yl (by kernel_rfl) ?_
    exact ⟨4,gY,trivial,aN,by rw[h7];rfl⟩
   ·have hb:=hck 5
    refine zq (fun j=>Nat.beq j 12) (by kernel_rfl) Z (zu (.rest _))<|ak 0 Z (eU Z)<|ak 1 Z (d9 Z)<|ak 2 Z (zw Z)<|ak 3 Z (zc jf Z Z7 (by decide) Z Z)<|ak 4 Z (zc jy Z Zx (by decide) Z Z)<|ak 5 Z (qb (j:=5) Zj je Z Z h7 (by decide) Z)<|yr (i:=8) Z (by kernel_rfl) (by kernel_rfl) (by kernel_rfl) (by kernel_rfl) (zw Z)<|yr (i:=9) Z (by kernel_rfl) (by kernel_rfl) (by kernel_rfl) (by kernel_rfl) (zc jf Z Z7 (by decide) Z Z)<|yr (i:=10) Z (by kernel_rfl) (by kernel_rfl) (by kernel_rfl) (by kernel_rfl) (zc jy Z Zx (by decide) Z Z)<|bO 6 Z<|za (zj (c:=.int _ _) jj Z ⟨_,.head⟩ Z)<|z7<|ak 7 Z (Io Z Z)<|ak 11 Z (qb (j:=5) Zj je Z Z h7 (by decide) Z)<|yi<|yk (i:=12) Z (by kernel_rfl) (by kernel_rfl)<|yg (l:=[_]) (new:=[_,_,_,_,_,_,_,_,_,_,_,_,_,_,_,_,_,_,_,_,_,_,_]) je Z Z Z Z Z Z .head Z Z<|z7<|yl (by kernel_rfl) ?_
    exact ⟨5,gY,trivial,aN,by rw[h7];rfl⟩
   ·have hb:=hck 6
    refine zq (fun j=>Nat.beq j 12) (by kernel_rfl) Z (zu (.rest _))<|ak 0 Z (eU Z)<|ak 1 Z (d9 Z)<|ak 2 Z (zw Z)<|ak 3 Z (zc jf Z Z7 (by decide) Z Z)<|ak 4 Z (zc jy Z Zx (by decide) Z Z)<|ak 5 Z (qb (j:=6) Zj je Z Z h7 (by decide) Z)<|yr (i:=8) Z (by kernel_rfl) (by kernel_rfl) (by kernel_rfl) (by kernel_rfl) (zw Z)<|yr (i:=9) Z (by kernel_rfl) (by kernel_rfl) (by kernel_rfl) (by kernel_rfl) (zc jf Z Z7 (by decide) Z Z)<|yr (i:=10) Z (by kernel_rfl) (by kernel_rfl) (by kernel_rfl) (by kernel_rfl) (zc jy Z Zx (by decide) Z Z)<|bO 6 Z<|za (zj (c:=.int _ _) jj Z ⟨_,.head⟩ Z)<|z7<|ak 7 Z (Io Z Z)<|ak 11 Z (qb (j:=6) Zj je Z Z h7 (by decide) Z)<|yi<|yk (i:=12) Z (by kernel_rfl) (by kernel_rfl)<|yg (l:=[_]) (new:=[_,_,_,_,_,_,_,_,_,_,_,_,_,_,_,_,_,_,_,_,_,_,_]) je Z Z Z Z Z Z .head Z Z<|z7<|yl (by kernel_rfl) ?_
    exact ⟨6,gY,trivial,aN,by rw[h7];rfl⟩
   ·have hb:=hck 7
    refine zq (fun j=>Nat.beq j 12) (by kernel_rfl) Z (zu (.rest _))<|ak 0 Z (eU Z)<|ak 1 Z (d9 Z)<|ak 2 Z (zw Z)<|ak 3 Z (zc jf Z Z7 (by decide) Z Z)<|ak 4 Z (zc jy Z Zx (by decide) Z Z)<|ak 5 Z (qb (j:=7) Zj je Z Z h7 (by decide) Z)<|yr (i:=8) Z (by kernel_rfl) (by kernel_rfl) (by kernel_rfl) (by kernel_rfl) (zw Z)<|yr (i:=9) Z (by kernel_rfl) (by kernel_rfl) (by kernel_rfl) (by kernel_rfl) (zc jf Z Z7 (by decide) Z Z)<|yr (i:=10) Z (by kernel_rfl) (by kernel_rfl) (by kernel_rfl) (by kernel_rfl) (zc jy Z Zx (by decide) Z Z)<|bO 6 Z<|za (zj (c:=.int _ _) jj Z ⟨_,.head⟩ Z)<|z7<|ak 7 Z (Io Z Z)<|ak 11 Z (qb (j:=7) Zj je Z Z h7 (by decide) Z)<|yi<|yk (i:=12) Z (by kernel_rfl) (by kernel_rfl)<|yg (l:=[_]) (new:=[_,_,_,_,_,_,_,_,_,_,_,_,_,_,_,_,_,_,_,_,_,_,_]) je Z Z Z Z Z Z .head Z Z<|z7<|yl (by kernel_rfl) ?_
    exact ⟨7,gY,trivial,aN,by rw[h7];rfl⟩
  ·rintro g hgt
   have hgn:(x.op - 17).toNat=g:=by omega
   have hal:0<x.args.length:=by
    obtain ⟨j,hj⟩:∃j:Nat,x.op=(j:Int):=⟨x.op.toNat,by omega⟩
    rw[hargc,hj,Int.toNat_natCast]
    have:j=18∨j=19∨j=20∨j=21∨j=22∨j=23∨j=24:=by omega
    rcases this with h|h|h|h|h|h|h<;>(rw[h];decide)
   have ho:wk f x.op x.args:=⟨hc.1,hc.2,hal,fun v hv=>dU (hx.args v hv)⟩
   refine zb<|ah<|bn Z<|za (yh (v:=.str _) Z)<|aq jp Z jm Z Z<|aM jw Z<|yu Z (zu (.l (.l (.l (.l (.l (.l (.l (.rest _))))))))) (sL f iw ja jb jc jo jt ids (ij s g) x.op x.args hids (hg.bump g) ho) ?_
   rintro r42 O42 ⟨rfl,rfl⟩
   refine aD Z<|z7<|zr Z (fun cp=>?_) (fun cp=>?_)
   ·have hp:¬ed s x.op x.args=true:=fun h=>by have h2:ed (ij s g) x.op x.args=true:=h;rw[h2] at cp;cases cp
    have hI:bV s x=El (ij s g) t:=by unfold bV;rw[if_pos hc,if_neg hp,hgn,ht]
    refine ah<|bn Z<|aa Z<|az Z<|za (zc jf Z Z7 (by decide) Z Z)<|za (zc jy Z sizeOf47 (by decide) Z Z)<|yg (l:=[_]) (new:=[_,_,_,_,_,_,_,_,_,_,_,_,_,_,_,_,_,_,_,_,_,_,_]) sizeOf47 Z Z Z Z Z Z .head Z Z<|z7<|bi<|bn Z<|yu Z (zu (.l (.l (.l (.l (.l (.l (.l (.rest _))))))))) (dI f iw ja jb jc jo jt ids { ij s g with tr:=t } 1) ?_
    rintro r50 O50 ⟨rfl,rfl⟩
    refine z7<|zf<|yx ?_
    exact ⟨jo,jt,ids,by rw[hI];exact hids,rfl,by rw[hI];rfl⟩
   ·have hp:ed s x.op x.args=true:=by cases h:ed s x.op x.args;have h2:ed (ij s g) x.op x.args=false:=h;rw[h2] at cp;cases cp;rfl
    have hI:bV s x=ij s g:=by unfold bV;rw[if_pos hc,if_pos hp,hgn]
    refine ze<|zf<|yx ?_
    exact ⟨jo,jt,ids,by rw[hI];exact hids,rfl,by rw[hI];rfl⟩
 ·have hc:¬(18≤x.op∧x.op≤24):=fun h=>by rw[if_pos h] at ht;omega
  refine ze<|ah<|aq jp Z jm Z Z<|aM jw Z<|za (va Z)<|z7<|ah<|aw Z<|aw Z<|z7<|ah<|ad Z<|ad Z<|aw Z<|z7<|zb<|ah<|bC Z<|ae jd Z<|za (yy Z Z)<|z7<|yq (γ:=Int × Bool × Int) [0,3,4,6,8,10] (fun u=>[(7,.int .i64 u.1),(9,.bool u.2.1),(11,.int .i64 u.2.2)]) (fun u=>wO f iw ja jb jc jo jt ids s) (fun u=>0<x.args.length→u=(aG s x,pG s x,rG s x)) ?_ (fun _ _ h=>h) ?_
  ·refine zm Z (fun ca=>?_) (fun ca=>?_)
   ·have ca:0<x.args.length:=by omega
    obtain ⟨q0,r0⟩:=hx.a0 ca
    refine zq (fun j=>false) (by kernel_rfl) Z (zu (.r (.r (.r (.r (.rest _))))))<|ak 0 Z (eU Z)<|ak 1 Z (zw Z)<|ak 2 Z (zc jf Z Za (by decide) Z Z)<|ak 3 Z (zj (c:=.own _ _) Zk Z ⟨_,.head⟩ Z)<|ak 4 Z (vu Z)<|ak 5 Z (cH 0 jd je Z Z Z (qR ca))<|ak 6 Z (gH jj Z)<|ak 7 Z (yj (j:=(xx x).toNat) jr Z8 Z Z (w8 r0).symm ⟨_,.t1⟩ ((aJ _).trans hl1) (by omega))<|ak 8 Z (qn (j:=(xx x).toNat) Y9 Z ⟨_,.t1⟩ (fa (by omega) r0))<|ak 9 Z (eU Z)<|ak 10 Z (zw Z)<|ak 11 Z (zc jf Z Ya (by decide) Z Z)<|ak 12 Z (zj (c:=.own _ _) Yi Z ⟨_,.head⟩ Z)<|ak 13 Z (vu Z)<|ak 14 Z (cH 0 jd je Z Z Z (qR ca))<|ak 15 Z (gH jj Z)<|ak 16 Z (yj (j:=(xx x).toNat) jn Z3 Z Z (w8 r0).symm ⟨_,.t2⟩ ((bt _).trans hl2) (by omega))<|ak 17 Z (Gv.loadB (j:=(xx x).toNat) Yc Z ⟨_,.t2⟩ (pF (by omega) r0))<|ak 18 Z (eU Z)<|ak 19 Z (zw Z)<|ak 20 Z (zc jf Z jm (by decide) Z Z)<|ak 21 Z (zj (c:=.own _ _) jw Z ⟨_,.head⟩ Z)<|ak 22 Z (vu Z)<|ak 23 Z (cH 0 jd je Z Z Z (qR ca))<|ak 24 Z (gH jj Z)<|ak 25 Z (yj (j:=(xx x).toNat) jd je Z Z (w8 r0).symm ⟨_,.t3⟩ ((aJ _).trans hl3) (by omega))<|ak 26 Z (qn (j:=(xx x).toNat) jj Z ⟨_,.t3⟩ (fa (by omega) r0))<|ak 27 Z (Il Z)<|ak 28 Z (xg Z)<|ak 29 Z (Il Z)<|eG ?_
    exact ⟨(aG s x,pG s x,rG s x),FX,hZ,aN,fun _=>rfl⟩
   ·refine ze ?_
    exact ⟨(0,false,-1),FX,hZ,aN,fun h=>absurd h (by omega)⟩
  ·rintro ⟨a,p,r⟩ hu
   refine zb<|ah<|bC Z<|ae jd Z<|za (yy Z Z)<|z7<|yq (γ:=Int × Bool) [0,3,4,6,7,9,11] (fun u=>[(8,.int .i64 u.1),(10,.bool u.2)]) (fun u=>wO f iw ja jb jc jo jt ids s) (fun u=>1<x.args.length→u=(bG s x,qG s x)) ?_ (fun _ _ h=>h) ?_
   ·refine zm Z (fun ca=>?_) (fun ca=>?_)
    ·have ca:1<x.args.length:=by omega
     obtain ⟨q0,r0⟩:=hx.a1 ca
     refine zq (fun j=>false) (by kernel_rfl) Z (zu (.r (.r (.r (.rest _)))))<|ak 0 Z (eU Z)<|ak 1 Z (zw Z)<|ak 2 Z (zc jf Z Za (by decide) Z Z)<|ak 3 Z (zj (c:=.own _ _) Zk Z ⟨_,.head⟩ Z)<|ak 4 Z (vu Z)<|ak 5 Z (cH 1 jd je Z Z Z (qR ca))<|ak 6 Z (gH jj Z)<|ak 7 Z (yj (j:=(Ej x).toNat) jr Z8 Z Z (w8 r0).symm ⟨_,.t1⟩ ((aJ _).trans hl1) (by omega))<|ak 8 Z (qn (j:=(Ej x).toNat) Y9 Z ⟨_,.t1⟩ (fa (by omega) r0))<|ak 9 Z (eU Z)<|ak 10 Z (zw Z)<|ak 11 Z (zc jf Z Ya (by decide) Z Z)<|ak 12 Z (zj (c:=.own _ _) Yi Z ⟨_,.head⟩ Z)<|ak 13 Z (vu Z)<|ak 14 Z (cH 1 jd je Z Z Z (qR ca))<|ak 15 Z (gH jj Z)<|ak 16 Z (yj (j:=(Ej x).toNat) jn Z3 Z Z (w8 r0).symm ⟨_,.t2⟩ ((bt _).trans hl2) (by omega))<|ak 17 Z (Gv.loadB (j:=(Ej x).toNat) Yc Z ⟨_,.t2⟩ (pF (by omega) r0))<|ak 18 Z (Il Z)<|ak 19 Z (xg Z)<|eG ?_
     exact ⟨(bG s x,qG s x),iM,eE,aN,fun _=>rfl⟩
    ·refine ze ?_
     exact ⟨(0,false),iM,eE,aN,fun h=>absurd h (by omega)⟩
   ·rintro ⟨b,q⟩ hw
    refine ah<|aq jp Z je Z Z<|aE jj Z<|aw Z<|z7<|ah<|za (yh (v:=.str _) Z)<|z7<|zg<|ah<|za (yz Z Z)<|ad Z<|z7<|zm Z (fun c0=>?_) (fun c0=>?_)
    ·have e:x.op=0:=(aR hop 0 (by decide) rfl).1 c0
     obtain ⟨d1,d0⟩:=hx.made (by rw[e];decide)
     have hI:bV s x=stI s x.dst x.num:=by rw[b9 hc];unfold doG;simp[e]
     refine zq (fun j=>Nat.beq j 8) (by kernel_rfl) Z (zu (.r (.rest _)))<|ak 0 Z (eU Z)<|ak 1 Z (zw Z)<|ak 2 Z (zc jf Z Za (by decide) Z Z)<|ak 3 Z (zj (c:=.own _ _) Zk Z ⟨_,.head⟩ Z)<|ak 4 Z (d9 Z)<|ak 5 Z (eK jp Z Z8 Z Z)<|ak 6 Z (gH Y9 Z)<|bO 7 Z<|za (yj (j:=x.dst.toNat) jr Z8 Z Z (w8 d0).symm ⟨_,.head⟩ ((aJ _).trans hl1) (by omega))<|z7<|yi<|yk (i:=8) Z (by kernel_rfl) (by kernel_rfl)<|q8 (j:=x.dst.toNat) Z8 Z Z .t1 (by first|omega|(simp;omega))<|z7<|yl (by kernel_rfl)<|yx ?_
     exact ⟨jo,jt,ids,by rw[hI];exact hids,rfl,by rw[hI];rfl⟩
    ·have n0:¬x.op=0:=fun e=>c0 ((aR hop 0 (by decide) rfl).2 e)
     refine zb<|ah<|za (yz Z Z)<|ad Z<|z7<|yq (γ:=Bool) [0,3,4,6,7,8,9,10,11,12,106] (fun z=>[(117,.bool z)]) (fun z=>wO f iw ja jb jc jo jt ids s) (fun z=>z=decide (x.op=1∨x.op=25∨x.op=26)) ?_ (fun _ _ h=>h) ?_
     ·refine zm Z (fun c1=>?_) (fun c1=>?_)
      ·have e:x.op=1:=(aR hop 1 (by decide) rfl).1 c1
       refine ze ?_
       exact ⟨_,qJ,aW,aN,by rw[w4 c1,e];rfl⟩
      ·have n1:¬x.op=1:=fun e=>c1 ((aR hop 1 (by decide) rfl).2 e)
       refine ah<|za (yz Z Z)<|ad Z<|z7<|zm Z (fun c25=>?_) (fun c25=>?_)
       ·have e:x.op=25:=(aR hop 25 (by decide) rfl).1 c25
        refine ze ?_
        exact ⟨_,qJ,aW,aN,by rw[w4 c25,e];rfl⟩
       ·have n25:¬x.op=25:=fun e=>c25 ((aR hop 25 (by decide) rfl).2 e)
        refine bi<|za (yz Z Z)<|ad Z<|z7 ?_
        exact ⟨_,qJ,aW,aN,by rw[decide_eq_decide];exact ⟨fun h=>.inr (.inr ((aR hop 26 (by decide) rfl).1 h)),fun h=>(aR hop 26 (by decide) rfl).2 ((h.resolve_left n1).resolve_left n25)⟩⟩
     ·rintro z hz
      refine zr Z (fun cz=>?_) (fun cz=>?_)
      ·have e:x.op=1∨x.op=25∨x.op=26:=w9 (hz.symm.trans cz)
       obtain ⟨d1,d0⟩:=hx.made (by rcases e with e|e|e<;>(rw[e];decide))
       obtain ⟨rfl,rfl,rfl⟩:a=aG s x∧p=pG s x∧r=rG s x:=by have:=hu (by rcases e with e|e|e<;>(rw[hargc,e];decide));simpa using this
       have hI:bV s x=stA (stB (stI s x.dst (aG s x)) x.dst (pG s x)) x.dst (rG s x):=by rw[b9 hc];unfold doG;rw[if_neg n0,if_pos e]
       refine cX.regionDrawR (by kernel_rfl) Z (zu (.r (.l (.l (.l (.l (.l (.l (.rest _)))))))))<|y8 (i:=0) Z (by kernel_rfl) (by kernel_rfl) (by kernel_rfl) (eU Z)<|y8 (i:=1) Z (by kernel_rfl) (by kernel_rfl) (by kernel_rfl) (zw Z)<|y8 (i:=2) Z (by kernel_rfl) (by kernel_rfl) (by kernel_rfl) (zc jf Z Za (by decide) Z Z)<|y8 (i:=3) Z (by kernel_rfl) (by kernel_rfl) (by kernel_rfl) (zj (c:=.own _ _) Zk Z ⟨_,.head⟩ Z)<|y8 (i:=4) Z (by kernel_rfl) (by kernel_rfl) (by kernel_rfl) (d9 Z)<|y8 (i:=5) Z (by kernel_rfl) (by kernel_rfl) (by kernel_rfl) (eU Z)<|y8 (i:=6) Z (by kernel_rfl) (by kernel_rfl) (by kernel_rfl) (zw Z)<|y8 (i:=7) Z (by kernel_rfl) (by kernel_rfl) (by kernel_rfl) (zc jf Z Ya (by decide) Z Z)<|y8 (i:=8) Z (by kernel_rfl) (by kernel_rfl) (by kernel_rfl) (zj (c:=.own _ _) Yi Z ⟨_,.head⟩ Z)<|y8 (i:=9) Z (by kernel_rfl) (by kernel_rfl) (by kernel_rfl) (d9 Z)<|y8 (i:=10) Z (by kernel_rfl) (by kernel_rfl) (by kernel_rfl) (eU Z)<|y8 (i:=11) Z (by kernel_rfl) (by kernel_rfl) (by kernel_rfl) (zw Z)<|y8 (i:=12) Z (by kernel_rfl) (by kernel_rfl) (by kernel_rfl) (zc jf Z jm (by decide) Z Z)<|y8 (i:=13) Z (by kernel_rfl) (by kernel_rfl) (by kernel_rfl) (zj (c:=.own _ _) jw Z ⟨_,.head⟩ Z)<|y8 (i:=14) Z (by kernel_rfl) (by kernel_rfl) (by kernel_rfl) (d9 Z)<|y8 (i:=15) Z (by kernel_rfl) (by kernel_rfl) (by kernel_rfl) (d9 Z)<|y8 (i:=16) Z (by kernel_rfl) (by kernel_rfl) (by kernel_rfl) (DQ Z)<|y8 (i:=17) Z (by kernel_rfl) (by kernel_rfl) (by kernel_rfl) (d9 Z)<|qp (i:=18) Z (by kernel_rfl)<|za (yj (j:=x.dst.toNat) jr Z8 Z Z (w8 d0).symm ⟨_,.head⟩ ((aJ _).trans hl1) (by omega))<|z7<|qp (i:=19) Z (by kernel_rfl)<|q8 (j:=x.dst.toNat) Z8 Z Z .head (by first|omega|(simp;omega))<|z7<|qp (i:=20) Z (by kernel_rfl)<|za (yj (j:=x.dst.toNat) jn Z3 Z Z (w8 d0).symm ⟨_,.t1⟩ ((bt _).trans hl2) (by omega))<|z7<|qp (i:=21) Z (by kernel_rfl)<|qe (j:=x.dst.toNat) Z3 Z Z .t1 (by first|omega|(simp;omega))<|z7<|qp (i:=22) Z (by kernel_rfl)<|za (yj (j:=x.dst.toNat) jd je Z Z (w8 d0).symm ⟨_,.t2⟩ ((aJ _).trans hl3) (by omega))<|z7<|qp (i:=23) Z (by kernel_rfl)<|q8 (j:=x.dst.toNat) je Z Z .t2 (by first|omega|(simp;omega))<|z7<|iy.done (by kernel_rfl)<|yx ?_
       exact ⟨jo,jt,ids,by rw[hI];exact hids,rfl,by rw[hI];rfl⟩
      ·have n1:¬(x.op=1∨x.op=25∨x.op=26):=of_decide_eq_false (hz.symm.trans cz)
       refine zb<|ah<|za (yz Z Z)<|ad Z<|z7<|yq (γ:=Bool) [0,3,4,6,7,8,9,10,11,12,106] (fun z=>[(142,.bool z)]) (fun z=>wO f iw ja jb jc jo jt ids s) (fun z=>z=decide (x.op=2∨x.op=3∨x.op=4)) ?_ (fun _ _ h=>h) ?_
       ·refine zm Z (fun c2=>?_) (fun c2=>?_)
        ·have e:x.op=2:=(aR hop 2 (by decide) rfl).1 c2
         refine ze ?_
         exact ⟨_,qJ,aW,aN,by rw[w4 c2,e];rfl⟩
        ·have n2:¬x.op=2:=fun e=>c2 ((aR hop 2 (by decide) rfl).2 e)
         refine ah<|za (yz Z Z)<|ad Z<|z7<|zm Z (fun c3=>?_) (fun c3=>?_)
         ·have e:x.op=3:=(aR hop 3 (by decide) rfl).1 c3
          refine ze ?_
          exact ⟨_,qJ,aW,aN,by rw[w4 c3,e];rfl⟩
         ·have n3:¬x.op=3:=fun e=>c3 ((aR hop 3 (by decide) rfl).2 e)
          refine bi<|za (yz Z Z)<|ad Z<|z7 ?_
          exact ⟨_,qJ,aW,aN,by rw[decide_eq_decide];exact ⟨fun h=>.inr (.inr ((aR hop 4 (by decide) rfl).1 h)),fun h=>(aR hop 4 (by decide) rfl).2 ((h.resolve_left n2).resolve_left n3)⟩⟩
       ·rintro z hz2
        refine zr Z (fun cz2=>?_) (fun cz2=>?_)
        ·have e:x.op=2∨x.op=3∨x.op=4:=w9 (hz2.symm.trans cz2)
         obtain ⟨d1,d0⟩:=hx.made (by rcases e with e|e|e<;>(rw[e];decide))
         obtain ⟨rfl,_,_⟩:a=aG s x∧p=pG s x∧r=rG s x:=by have:=hu (by rcases e with e|e|e<;>(rw[hargc,e];decide));simpa using this
         obtain ⟨rfl,_⟩:b=bG s x∧q=qG s x:=by have:=hw (by rcases e with e|e|e<;>(rw[hargc,e];decide));simpa using this
         obtain ⟨k,hk,hxk⟩:∃k:Nat,k≤2∧x.op - 2=(k:Int):=⟨(x.op - 2).toNat,by omega,by omega⟩
         have hI:bV s x=stI s x.dst (IntKind.i64.wrap (qM k (aG s x) (bG s x))):=by
          rw[b9 hc];unfold doG;rw[if_neg n0,if_neg n1]
          have:k=0∨k=1∨k=2:=by omega
          rcases this with rfl|rfl|rfl
          ·rw[if_pos (by omega)]
          ·rw[if_neg (by omega),if_pos (by omega)]
          ·rw[if_neg (by omega),if_neg (by omega),if_pos (by omega)]
         have hwr:=Kq (E:=E) hk (x:=aG s x) (y:=bG s x)
         rw[←hxk] at hwr
         refine zq (fun j=>Nat.beq j 12) (by kernel_rfl) Z (zu (.r (.rest _)))<|ak 0 Z (eU Z)<|ak 1 Z (zw Z)<|ak 2 Z (zc jf Z Za (by decide) Z Z)<|ak 3 Z (zj (c:=.own _ _) Zk Z ⟨_,.head⟩ Z)<|ak 4 Z (d9 Z)<|ak 5 Z (eK jp Z Zz Z Z)<|ak 6 Z (gH Y5 Z)<|ak 7 Z (Gv.sub Z Z (by unfold ko;omega))<|ak 8 Z (d9 Z)<|ak 9 Z (d9 Z)<|bO 10 Z<|zi (hwr) Z<|z7<|bO 11 Z<|za (yj (j:=x.dst.toNat) jr Z8 Z Z (w8 d0).symm ⟨_,.head⟩ ((aJ _).trans hl1) (by omega))<|z7<|yi<|yk (i:=12) Z (by kernel_rfl) (by kernel_rfl)<|q8 (j:=x.dst.toNat) Z8 Z Z .t1 (by first|omega|(simp;omega))<|z7<|yl (by kernel_rfl)<|yx ?_
         exact ⟨jo,jt,ids,by rw[hI];exact hids,rfl,by rw[hI];rfl⟩
        ·have n2:¬(x.op=2∨x.op=3∨x.op=4):=of_decide_eq_false (hz2.symm.trans cz2)
         refine zb<|ah<|za (yz Z Z)<|ad Z<|z7<|yq (γ:=Bool) [0,4,6,7,8,9,10,11,12,106] (fun z=>[(158,.bool z)]) (fun z=>wO f iw ja jb jc jo jt ids s) (fun z=>z=decide (x.op=5∨x.op=6)) ?_ (fun _ _ h=>h) ?_
         ·refine zm Z (fun c5=>?_) (fun c5=>?_)
          ·have e:x.op=5:=(aR hop 5 (by decide) rfl).1 c5
           refine ze ?_
           exact ⟨_,⟨rfl,rfl,rfl,rfl,rfl,rfl,rfl,rfl,rfl,rfl,trivial⟩,aW,aN,by rw[w4 c5,e];rfl⟩
          ·have n5:¬x.op=5:=fun e=>c5 ((aR hop 5 (by decide) rfl).2 e)
           refine bi<|za (yz Z Z)<|ad Z<|z7 ?_
           exact ⟨_,⟨rfl,rfl,rfl,rfl,rfl,rfl,rfl,rfl,rfl,rfl,trivial⟩,aW,aN,by rw[decide_eq_decide];exact ⟨fun h=>.inr ((aR hop 6 (by decide) rfl).1 h),fun h=>(aR hop 6 (by decide) rfl).2 (h.resolve_left n5)⟩⟩
         ·rintro z hz3
          refine zr Z (fun cz3=>?_) (fun cz3=>?_)
          ·have e:x.op=5∨x.op=6:=w9 (hz3.symm.trans cz3)
           obtain ⟨d1,d0⟩:=hx.made (by rcases e with e|e<;>(rw[e];decide))
           obtain ⟨rfl,_,_⟩:a=aG s x∧p=pG s x∧r=rG s x:=by have:=hu (by rcases e with e|e<;>(rw[hargc,e];decide));simpa using this
           obtain ⟨rfl,_⟩:b=bG s x∧q=qG s x:=by have:=hw (by rcases e with e|e<;>(rw[hargc,e];decide));simpa using this
           have hD:doG s x=if bG s x=0 then cP s 2 else stI s x.dst (if x.op=6 then vQ (aG s x) (bG s x) else Em (aG s x) (bG s x)):=by
            rcases e with e|e<;>(unfold doG;simp[e])
           refine zb<|ah<|aa Z<|ax Z Z<|z7<|zm Z (fun c0b=>?_) (fun c0b=>?_)
           ·have hI:bV s x=cP s 2:=by rw[b9 hc,hD,if_pos (by omega)]
            refine ah<|bn Z<|yu Z (zu (.l (.l (.l (.l (.l (.l (.l (.rest _))))))))) (dI f iw ja jb jc jo jt ids s 2) ?_
            rintro r164 O164 ⟨rfl,rfl⟩
            refine z7<|zf<|yx ?_
            exact ⟨jo,jt,ids,by rw[hI];exact hids,rfl,by rw[hI];rfl⟩
           ·have hb0:¬bG s x=0:=by omega
            have hI:bV s x=stI s x.dst (if x.op=6 then vQ (aG s x) (bG s x) else Em (aG s x) (bG s x)):=by rw[b9 hc,hD,if_neg hb0]
            refine ze<|ah<|aa Z<|aa Z<|zi (Kr hb0) Z<|za (J9 Z)<|za (DT Z Z)<|za (DT Z Z)<|aw Z<|aw Z<|z7<|zb<|ah<|za (yh (v:=.str _) Z)<|za (yz Z Z)<|z7<|yq (γ:=Int) [0,12] (fun v=>[(13,.int .i64 v)]) (fun v=>wO f iw ja jb jc jo jt ids s) (fun v=>v=if x.op=6 then vQ (aG s x) (bG s x) else Em (aG s x) (bG s x)) ?_ (fun _ _ h=>h) ?_
            ·refine zm Z (fun c6=>?_) (fun c6=>?_)
             ·have e6:x.op=6:=(aR hop 6 (by decide) rfl).1 c6
              refine bi<|aa Z<|aw Z<|z7 ?_
              exact ⟨_,eE,aW,aN,by rw[if_pos e6];rfl⟩
             ·have e6:¬x.op=6:=fun e=>c6 ((aR hop 6 (by decide) rfl).2 e)
              refine ze ?_
              exact ⟨_,eE,aW,aN,by rw[if_neg e6];rfl⟩
            ·rintro v hv3
             rw[←hv3] at hI
             refine bi<|bn Z<|az Z<|za (zc jf Z Za (by decide) Z Z)<|za (zj (c:=.own _ _) Zk Z ⟨_,.head⟩ Z)<|aa Z<|aa Z<|za (yj (j:=x.dst.toNat) jr Z8 Z Z (w8 d0).symm ⟨_,.t1⟩ ((aJ _).trans hl1) (by omega))<|q8 (j:=x.dst.toNat) Z8 Z Z .t1 (by first|omega|(simp;omega))<|z7<|yx ?_
             exact ⟨jo,jt,ids,by rw[hI];exact hids,rfl,by rw[hI];rfl⟩
          ·have n5:¬(x.op=5∨x.op=6):=of_decide_eq_false (hz3.symm.trans cz3)
           refine ah<|za (yz Z Z)<|ad Z<|z7<|zm Z (fun c7=>?_) (fun c7=>?_)
           ·have e:x.op=7:=(aR hop 7 (by decide) rfl).1 c7
            obtain ⟨d1,d0⟩:=hx.made (by rw[e];decide)
            obtain ⟨rfl,_,_⟩:a=aG s x∧p=pG s x∧r=rG s x:=by have:=hu (by rw[hargc,e];decide);simpa using this
            obtain ⟨rfl,_⟩:b=bG s x∧q=qG s x:=by have:=hw (by rw[hargc,e];decide);simpa using this
            have hI:bV s x=stB s x.dst (decide (aG s x=bG s x)):=by rw[b9 hc];unfold doG;simp[e]
            refine bi<|bn Z<|az Z<|za (zc jf Z Ya (by decide) Z Z)<|za (zj (c:=.own _ _) Yi Z ⟨_,.head⟩ Z)<|aa Z<|aa Z<|aa Z<|ax Z Z<|za (yj (j:=x.dst.toNat) jn Z3 Z Z (w8 d0).symm ⟨_,.t2⟩ ((bt _).trans hl2) (by omega))<|qe (j:=x.dst.toNat) Z3 Z Z .t2 (by first|omega|(simp;omega))<|z7<|yx ?_
            exact ⟨jo,jt,ids,by rw[hI];exact hids,rfl,by rw[hI];rfl⟩
           ·have n7:¬x.op=7:=fun e=>c7 ((aR hop 7 (by decide) rfl).2 e)
            refine ah<|za (yz Z Z)<|ad Z<|z7<|zm Z (fun c8=>?_) (fun c8=>?_)
            ·have e:x.op=8:=(aR hop 8 (by decide) rfl).1 c8
             obtain ⟨d1,d0⟩:=hx.made (by rw[e];decide)
             obtain ⟨rfl,_,_⟩:a=aG s x∧p=pG s x∧r=rG s x:=by have:=hu (by rw[hargc,e];decide);simpa using this
             obtain ⟨rfl,_⟩:b=bG s x∧q=qG s x:=by have:=hw (by rw[hargc,e];decide);simpa using this
             have hI:bV s x=stB s x.dst (decide (aG s x<bG s x)):=by rw[b9 hc];unfold doG;simp[e]
             refine bi<|bn Z<|az Z<|za (zc jf Z Ya (by decide) Z Z)<|za (zj (c:=.own _ _) Yi Z ⟨_,.head⟩ Z)<|aa Z<|aa Z<|aa Z<|ay Z Z<|za (yj (j:=x.dst.toNat) jn Z3 Z Z (w8 d0).symm ⟨_,.t2⟩ ((bt _).trans hl2) (by omega))<|qe (j:=x.dst.toNat) Z3 Z Z .t2 (by first|omega|(simp;omega))<|z7<|yx ?_
             exact ⟨jo,jt,ids,by rw[hI];exact hids,rfl,by rw[hI];rfl⟩
            ·have n8:¬x.op=8:=fun e=>c8 ((aR hop 8 (by decide) rfl).2 e)
             refine ah<|za (yz Z Z)<|ad Z<|z7<|zm Z (fun c9=>?_) (fun c9=>?_)
             ·have e:x.op=9:=(aR hop 9 (by decide) rfl).1 c9
              obtain ⟨d1,d0⟩:=hx.made (by rw[e];decide)
              obtain ⟨rfl,_,_⟩:a=aG s x∧p=pG s x∧r=rG s x:=by have:=hu (by rw[hargc,e];decide);simpa using this
              obtain ⟨rfl,_⟩:b=bG s x∧q=qG s x:=by have:=hw (by rw[hargc,e];decide);simpa using this
              have hI:bV s x=stB s x.dst (decide (aG s x≤bG s x)):=by rw[b9 hc];unfold doG;simp[e]
              refine bi<|bn Z<|az Z<|za (zc jf Z Ya (by decide) Z Z)<|za (zj (c:=.own _ _) Yi Z ⟨_,.head⟩ Z)<|aa Z<|aa Z<|aa Z<|za (Gv.leq Z Z)<|za (yj (j:=x.dst.toNat) jn Z3 Z Z (w8 d0).symm ⟨_,.t2⟩ ((bt _).trans hl2) (by omega))<|qe (j:=x.dst.toNat) Z3 Z Z .t2 (by first|omega|(simp;omega))<|z7<|yx ?_
              exact ⟨jo,jt,ids,by rw[hI];exact hids,rfl,by rw[hI];rfl⟩
             ·have n9:¬x.op=9:=fun e=>c9 ((aR hop 9 (by decide) rfl).2 e)
              refine ah<|za (yz Z Z)<|ad Z<|z7<|zm Z (fun c10=>?_) (fun c10=>?_)
              ·have e:x.op=10:=(aR hop 10 (by decide) rfl).1 c10
               obtain ⟨d1,d0⟩:=hx.made (by rw[e];decide)
               obtain ⟨_,rfl,_⟩:a=aG s x∧p=pG s x∧r=rG s x:=by have:=hu (by rw[hargc,e];decide);simpa using this
               have hI:bV s x=stB s x.dst (!pG s x):=by rw[b9 hc];unfold doG;simp[e]
               refine bi<|bn Z<|az Z<|za (zc jf Z Ya (by decide) Z Z)<|za (zj (c:=.own _ _) Yi Z ⟨_,.head⟩ Z)<|aa Z<|ai Z<|aD Z<|za (yj (j:=x.dst.toNat) jn Z3 Z Z (w8 d0).symm ⟨_,.t2⟩ ((bt _).trans hl2) (by omega))<|qe (j:=x.dst.toNat) Z3 Z Z .t2 (by first|omega|(simp;omega))<|z7<|yx ?_
               exact ⟨jo,jt,ids,by rw[hI];exact hids,rfl,by rw[hI];rfl⟩
              ·have n10:¬x.op=10:=fun e=>c10 ((aR hop 10 (by decide) rfl).2 e)
               refine ah<|za (yz Z Z)<|ad Z<|z7<|zm Z (fun c11=>?_) (fun c11=>?_)
               ·have e:x.op=11:=(aR hop 11 (by decide) rfl).1 c11
                obtain ⟨d1,d0⟩:=hx.made (by rw[e];decide)
                obtain ⟨_,rfl,_⟩:a=aG s x∧p=pG s x∧r=rG s x:=by have:=hu (by rw[hargc,e];decide);simpa using this
                obtain ⟨_,rfl⟩:b=bG s x∧q=qG s x:=by have:=hw (by rw[hargc,e];decide);simpa using this
                have hI:bV s x=stB s x.dst (pG s x&&qG s x):=by rw[b9 hc];unfold doG;simp[e]
                refine bi<|bn Z<|az Z<|za (zc jf Z Ya (by decide) Z Z)<|za (zj (c:=.own _ _) Yi Z ⟨_,.head⟩ Z)<|aa Z<|ai Z<|ai Z<|zk (s:=232) Z (fun cp=>?_) (fun cp=>?_)
                ·have cp:pG s x=true:=cp
                 rw[cp,Bool.true_and] at hI
                 refine z8 Z Z cp<|ai Z<|ap Z cp Z<|za (yj (j:=x.dst.toNat) jn Z3 Z Z (w8 d0).symm ⟨_,.t2⟩ ((bt _).trans hl2) (by omega))<|qe (j:=x.dst.toNat) Z3 Z Z .t2 (by first|omega|(simp;omega))<|z7<|yx ?_
                 exact ⟨jo,jt,ids,by rw[hI];exact hids,rfl,by rw[hI];rfl⟩
                ·have cp:pG s x=false:=cp
                 rw[cp,Bool.false_and] at hI
                 refine z6 Z Z cp<|al Z cp Z<|za (yj (j:=x.dst.toNat) jn Z3 Z Z (w8 d0).symm ⟨_,.t2⟩ ((bt _).trans hl2) (by omega))<|qe (j:=x.dst.toNat) Z3 Z Z .t2 (by first|omega|(simp;omega))<|z7<|yx ?_
                 exact ⟨jo,jt,ids,by rw[hI];exact hids,rfl,by rw[hI];rfl⟩
               ·have n11:¬x.op=11:=fun e=>c11 ((aR hop 11 (by decide) rfl).2 e)
                refine ah<|za (yz Z Z)<|ad Z<|z7<|zm Z (fun c12=>?_) (fun c12=>?_)
                ·have e:x.op=12:=(aR hop 12 (by decide) rfl).1 c12
                 obtain ⟨d1,d0⟩:=hx.made (by rw[e];decide)
                 obtain ⟨_,_,rfl⟩:a=aG s x∧p=pG s x∧r=rG s x:=by have:=hu (by rw[hargc,e];decide);simpa using this
                 have hrr:rG s x<s.arrays.length:=(nV hg (hx.a0 (by rw[hargc,e];decide))).2
                 refine zb<|ah<|aa Z<|ay Z Z<|z7<|zm Z (fun cr=>?_) (fun cr=>?_)
                 ·have cr:rG s x<0:=by omega
                  have hI:bV s x=cP s 2:=by rw[b9 hc];unfold doG;simp[e,cr]
                  refine ah<|bn Z<|yu Z (zu (.l (.l (.l (.l (.l (.l (.l (.rest _))))))))) (dI f iw ja jb jc jo jt ids s 2) ?_
                  rintro r241 O241 ⟨rfl,rfl⟩
                  refine z7<|zf<|yx ?_
                  exact ⟨jo,jt,ids,by rw[hI];exact hids,rfl,by rw[hI];rfl⟩
                 ·have cr:¬rG s x<0:=by omega
                  have hI:bV s x=stI s x.dst ((ga s (rG s x)).length):=by rw[b9 hc];unfold doG;simp[e,cr]
                  obtain ⟨w,hw0⟩:=sK hids (j:=(rG s x).toNat) (by omega)
                  refine ze<|zq (fun j=>Nat.beq j 14) (by kernel_rfl) Z (zu (.r (.l (.l (.l (.r (.rest _)))))))<|ak 0 Z (eU Z)<|ak 1 Z (zw Z)<|ak 2 Z (zc jf Z Za (by decide) Z Z)<|ak 3 Z (zj (c:=.own _ _) Zk Z ⟨_,.head⟩ Z)<|ak 4 Z (d9 Z)<|ak 5 Z (eU Z)<|ak 6 Z (zw Z)<|ak 7 Z (zc jf Z Zt (by decide) Z Z)<|ak 8 Z (zj (c:=.own _ _) Ye Z ⟨_,.head⟩ Z)<|ak 9 Z (d9 Z)<|ak 10 Z (yj (j:=(rG s x).toNat) Z9 Za Z Z (w8 (Int.not_lt.1 cr)).symm ⟨_,.t1⟩ (iz hids) (by omega))<|ak 11 Z (Gv.load1G (c:=_) Zk Z ⟨_,.t1⟩ (iA hw0 (gK (by omega) hrr)))<|ak 12 Z (Gv.lenO jr Z)<|bO 13 Z<|za (yj (j:=x.dst.toNat) jr Z8 Z Z (w8 d0).symm ⟨_,.head⟩ ((aJ _).trans hl1) (by omega))<|z7<|yi<|yk (i:=14) Z (by kernel_rfl) (by kernel_rfl)<|q8 (j:=x.dst.toNat) Z8 Z Z .t2 (by first|omega|(simp;omega))<|z7<|yl (by kernel_rfl)<|q7 (zn (zp .t4))<|q7 (zn (zp .t4))<|q7 (zn (zp .t4))<|q7 (zn (zp .t3))<|yx ?_
                  exact ⟨jo,jt,ids,by rw[hI];exact hids,rfl,by rw[hI];rfl⟩
                ·have n12:¬x.op=12:=fun e=>c12 ((aR hop 12 (by decide) rfl).2 e)
                 refine ah<|za (yz Z Z)<|ad Z<|z7<|zm Z (fun c13=>?_) (fun c13=>?_)
                 ·have e:x.op=13:=(aR hop 13 (by decide) rfl).1 c13
                  obtain ⟨d1,d0⟩:=hx.made (by rw[e];decide)
                  obtain ⟨_,_,rfl⟩:a=aG s x∧p=pG s x∧r=rG s x:=by have:=hu (by rw[hargc,e];decide);simpa using this
                  obtain ⟨rfl,_⟩:b=bG s x∧q=qG s x:=by have:=hw (by rw[hargc,e];decide);simpa using this
                  refine zb<|ah<|bn Z<|aa Z<|aa Z<|yu Z (zu (.l (.l (.l (.l (.l (.l (.l (.rest _))))))))) (kh f iw ja jb jc jo jt ids s (rG s x) (bG s x) hids) ?_
                  rintro r261 O261 ⟨rfl,rfl⟩
                  refine aD Z<|z7<|zr Z (fun cp=>?_) (fun cp=>?_)
                  ·have cp:¬dp s (rG s x) (bG s x)=true:=by simpa using cp
                   have hI:bV s x=cP s 2:=by rw[b9 hc];unfold doG;simp[e,cp]
                   refine ah<|bn Z<|yu Z (zu (.l (.l (.l (.l (.l (.l (.l (.rest _))))))))) (dI f iw ja jb jc jo jt ids s 2) ?_
                   rintro r264 O264 ⟨rfl,rfl⟩
                   refine z7<|zf<|yx ?_
                   exact ⟨jo,jt,ids,by rw[hI];exact hids,rfl,by rw[hI];rfl⟩
                  ·have cp:dp s (rG s x) (bG s x)=true:=by simpa using cp
                   obtain ⟨h1,h2,h3,h4⟩:=kD.1 cp
                   obtain ⟨w,hw0⟩:=sK hids (j:=(rG s x).toNat) (by omega)
                   obtain ⟨X,hX1,hX2⟩:=sx GQ ids s.arrays _ hw0 (gK h1 h2)
                   have hI:bV s x=stI s x.dst (vi (ga s (rG s x)) (bG s x)):=by rw[b9 hc];unfold doG;simp[e,cp]
                   refine yc (aX.bagOut (i:=w) (o:=.grow 1 2 (cI (ga s (rG s x)))) (X':=X) (hX1) .t6)<|ze<|zq (fun j=>Nat.beq j 16) (by kernel_rfl) Z (zu (.r (.r (.l (.l (.l (.r (.rest _))))))))<|ak 0 Z (eU Z)<|ak 1 Z (zw Z)<|ak 2 Z (zc jf Z Za (by decide) Z Z)<|ak 3 Z (zj (c:=.own _ _) Zk Z ⟨_,.t1⟩ Z)<|ak 4 Z (d9 Z)<|ak 5 Z (eU Z)<|ak 6 Z (zw Z)<|ak 7 Z (zc jf Z Zt (by decide) Z Z)<|ak 8 Z (zj (c:=.own _ _) Ye Z ⟨_,.t1⟩ Z)<|ak 9 Z (d9 Z)<|ak 10 Z (yj (j:=(rG s x).toNat) Z9 Za Z Z (w8 h1).symm ⟨_,.t2⟩ (iz hids) (by omega))<|ak 11 Z (Gv.load1G (c:=_) Zk Z ⟨_,.t2⟩ (iA hw0 (gK h1 h2)))<|ak 12 Z (d9 Z)<|ak 13 Z (yj (j:=(bG s x).toNat) jr Z8 Z Z (w8 h3).symm ⟨_,.head⟩ (aJ _) (by omega))<|ak 14 Z (qn (j:=(bG s x).toNat) Y9 Z ⟨_,.head⟩ (fa h4 h3))<|bO 15 Z<|za (yj (j:=x.dst.toNat) jr Z8 Z Z (w8 d0).symm ⟨_,.head⟩ ((aJ _).trans hl1) (by omega))<|z7<|yi<|yk (i:=16) Z (by kernel_rfl) (by kernel_rfl)<|q8 (j:=x.dst.toNat) Z8 Z Z .t3 (by first|omega|(simp;omega))<|z7<|yl (by kernel_rfl)<|q7 (aX.bagIn (X':=pE ids s.arrays) .head (hX1.symm) .t6)<|q7 (zn (zp .t4))<|q7 (zn (zp .t4))<|q7 (zn (zp .t4))<|q7 (zn (zp .t3))<|yx ?_
                   exact ⟨jo,jt,ids,by rw[hI];exact hids,rfl,by rw[hI];rfl⟩
                 ·have n13:¬x.op=13:=fun e=>c13 ((aR hop 13 (by decide) rfl).2 e)
                  refine ah<|za (yz Z Z)<|ad Z<|z7<|zm Z (fun c14=>?_) (fun c14=>?_)
                  ·have e:x.op=14:=(aR hop 14 (by decide) rfl).1 c14
                   obtain ⟨_,_,rfl⟩:a=aG s x∧p=pG s x∧r=rG s x:=by have:=hu (by rw[hargc,e];decide);simpa using this
                   obtain ⟨rfl,_⟩:b=bG s x∧q=qG s x:=by have:=hw (by rw[hargc,e];decide);simpa using this
                   obtain ⟨q2,r2⟩:=hx.a2 (by rw[hargc,e];decide)
                   have hal:2<x.args.length:=by rw[hargc,e];decide
                   refine zb<|ah<|bn Z<|aa Z<|aa Z<|yu Z (zu (.l (.l (.l (.l (.l (.l (.l (.rest _))))))))) (kh f iw ja jb jc jo jt ids s (rG s x) (bG s x) hids) ?_
                   rintro r286 O286 ⟨rfl,rfl⟩
                   refine aD Z<|z7<|zr Z (fun cp=>?_) (fun cp=>?_)
                   ·have cp:¬dp s (rG s x) (bG s x)=true:=by simpa using cp
                    have hI:bV s x=cP s 2:=by rw[b9 hc];unfold doG;simp[e,cp]
                    refine ah<|bn Z<|yu Z (zu (.l (.l (.l (.l (.l (.l (.l (.rest _))))))))) (dI f iw ja jb jc jo jt ids s 2) ?_
                    rintro r289 O289 ⟨rfl,rfl⟩
                    refine z7<|zf<|yx ?_
                    exact ⟨jo,jt,ids,by rw[hI];exact hids,rfl,by rw[hI];rfl⟩
                   ·have cp:dp s (rG s x) (bG s x)=true:=by simpa using cp
                    obtain ⟨h1,h2,h3,h4⟩:=kD.1 cp
                    obtain ⟨w,hw0⟩:=sK hids (j:=(rG s x).toNat) (by omega)
                    obtain ⟨X,hX1,hX2⟩:=sx GQ ids s.arrays _ hw0 (gK h1 h2)
                    have hI:bV s x={ s with arrays:=s.arrays.set (rG s x).toNat ((ga s (rG s x)).set (bG s x).toNat (vi s.ints (xy x))) }:=by rw[b9 hc];unfold doG;simp[e,cp]
                    refine yc (aX.bagOut (i:=w) (o:=.grow 1 2 (cI (ga s (rG s x)))) (X':=X) (hX1) .t6)<|ze<|zq (fun j=>Nat.beq j 18) (by kernel_rfl) Z (zu (.l (.r (.r (.l (.l (.r (.rest _))))))))<|ak 0 Z (eU Z)<|ak 1 Z (zw Z)<|ak 2 Z (zc jf Z Zt (by decide) Z Z)<|ak 3 Z (zj (c:=.own _ _) Ye Z ⟨_,.head⟩ Z)<|ak 4 Z (d9 Z)<|ak 5 Z (yj (j:=(rG s x).toNat) Z9 Za Z Z (w8 h1).symm ⟨_,.t2⟩ (iz hids) (by omega))<|ak 6 Z (Gv.load1G (c:=_) Zk Z ⟨_,.t2⟩ (iA hw0 (gK h1 h2)))<|ak 7 Z (d9 Z)<|ak 8 Z (eU Z)<|ak 9 Z (zw Z)<|ak 10 Z (zc jf Z Za (by decide) Z Z)<|ak 11 Z (zj (c:=.own _ _) Zk Z ⟨_,.head⟩ Z)<|ak 12 Z (vu Z)<|ak 13 Z (cH 2 jd je Z Z Z (qR hal))<|ak 14 Z (gH jj Z)<|ak 15 Z (yj (j:=(xy x).toNat) jr Z8 Z Z (w8 r2).symm ⟨_,.t1⟩ ((aJ _).trans hl1) (by omega))<|ak 16 Z (qn (j:=(xy x).toNat) Y9 Z ⟨_,.t1⟩ (fa (by omega) r2))<|bO 17 Z<|za (yj (j:=(bG s x).toNat) jr Z8 Z Z (w8 h3).symm ⟨_,.head⟩ (aJ _) (by omega))<|z7<|yi<|yk (i:=18) Z (by kernel_rfl) (by kernel_rfl)<|q8 (j:=(bG s x).toNat) Z8 Z Z .t3 (by first|omega|(simp;omega))<|z7<|yl (by kernel_rfl)<|q7 (aX.bagIn (X':=pE ids (s.arrays.set (rG s x).toNat ((ga s (rG s x)).set (bG s x).toNat (vi s.ints (xy x))))) .t3 ((by have:=hX2 w ((ga s (rG s x)).set (bG s x).toNat (vi s.ints (xy x)));rw[EH hw0] at this;exact this)) .t6)<|q7 (zn (zp .t2))<|q7 (zn (zp .t4))<|q7 (zn (zp .t4))<|q7 (zn (zp .t4))<|q7 (zn (zp .t4))<|yx ?_
                    exact ⟨jo,jt,ids,by rw[hI];simpa using hids,rfl,by rw[hI];unfold wO wR GR;rw[uJ (gK h1 h2) (List.length_set ..)];simp⟩
                  ·have n14:¬x.op=14:=fun e=>c14 ((aR hop 14 (by decide) rfl).2 e)
                   refine ah<|za (yz Z Z)<|ad Z<|z7<|zm Z (fun c15=>?_) (fun c15=>?_)
                   ·have e:x.op=15:=(aR hop 15 (by decide) rfl).1 c15
                    obtain ⟨d1,d0⟩:=hx.made (by rw[e];decide)
                    obtain ⟨rfl,_,_⟩:a=aG s x∧p=pG s x∧r=rG s x:=by have:=hu (by rw[hargc,e];decide);simpa using this
                    refine zg<|zb<|yq (γ:=Bool) [0,7,12] (fun z=>[(333,.bool z)]) (fun z=>wO f iw ja jb jc jo jt ids s) (fun z=>z=decide (aG s x<0∨64<aG s x)) ?_ (fun _ _ h=>h) ?_
                    ·refine bi<|aa Z<|ay Z Z<|ai Z<|zk (s:=336) Z (fun cn=>?_) (fun cn=>?_)
                     ·have cn2:aG s x<0:=by simpa using cn
                      refine z6 Z Z cn<|z6 Z Z cn<|ap Z cn Z<|ad Z<|z7 ?_
                      exact ⟨_,hZ,aW,aN,by rw[w4 (.inl cn2)]⟩
                     ·have cn2:¬aG s x<0:=by simpa using cn
                      refine z8 Z Z cn<|aa Z<|z8 Z Z cn<|za (yy Z Z)<|al Z cn Z<|ad Z<|z7 ?_
                      exact ⟨_,hZ,aW,aN,by rw[decide_eq_decide];exact ⟨fun h=>.inr h,fun h=>h.resolve_left cn2⟩⟩
                    ·rintro z hz4
                     refine zr Z (fun cz4=>?_) (fun cz4=>?_)
                     ·have cz4:aG s x<0∨64<aG s x:=w9 (hz4.symm.trans cz4)
                      have hI:bV s x=cP s 2:=by rw[b9 hc];unfold doG;simp[e,cz4]
                      refine bi<|bn Z<|yu Z (zu (.l (.l (.l (.l (.l (.l (.l (.rest _))))))))) (dI f iw ja jb jc jo jt ids s 2) ?_
                      rintro r341 O341 ⟨rfl,rfl⟩
                      refine z7<|yx ?_
                      exact ⟨jo,jt,ids,by rw[hI];exact hids,rfl,by rw[hI];rfl⟩
                     ·have cz4:¬(aG s x<0∨64<aG s x):=of_decide_eq_false (hz4.symm.trans cz4)
                      refine ah<|bn Z<|az Z<|za (zc jf Z Zt (by decide) Z Z)<|za (zj (c:=.own _ _) Ye Z ⟨_,.head⟩ Z)<|za (Gv.lenO Z9 Z)<|za (ql Z Z)<|ad Z<|z7<|zm Z (fun c32=>?_) (fun c32=>?_)
                      ·have c32:32≤s.arrays.length:=by omega
                       have hI:bV s x=cP s 3:=by rw[b9 hc];unfold doG;rw[e,if_neg (by decide),if_neg (by decide),if_neg (by decide),if_neg (by decide),if_neg (by decide),if_neg (by decide),if_neg (by decide),if_neg (by decide),if_neg (by decide),if_neg (by decide),if_neg (by decide),if_neg (by decide),if_neg (by decide),if_neg (by decide),if_neg (by decide),if_pos rfl,if_neg cz4,if_pos c32]
                       refine bi<|bn Z<|yu Z (zu (.l (.l (.l (.l (.l (.l (.l (.rest _))))))))) (dI f iw ja jb jc jo jt ids s 3) ?_
                       rintro r350 O350 ⟨rfl,rfl⟩
                       refine z7<|yx ?_
                       exact ⟨jo,jt,ids,by rw[hI];exact hids,rfl,by rw[hI];rfl⟩
                      ·have c32:¬32≤s.arrays.length:=by omega
                       have hI:bV s x=stA { s with arrays:=s.arrays++[List.replicate (aG s x).toNat 0] } x.dst s.arrays.length:=by rw[b9 hc];unfold doG;rw[e,if_neg (by decide),if_neg (by decide),if_neg (by decide),if_neg (by decide),if_neg (by decide),if_neg (by decide),if_neg (by decide),if_neg (by decide),if_neg (by decide),if_neg (by decide),if_neg (by decide),if_neg (by decide),if_neg (by decide),if_neg (by decide),if_neg (by decide),if_pos rfl,if_neg cz4,if_neg c32]
                       refine zb<|zq (fun j=>Nat.beq j 11) (by kernel_rfl) Z (zu (.r (.rest _)))<|ak 0 Z (eU Z)<|ak 1 Z (eU Z)<|ak 2 Z (zw Z)<|ak 3 Z (zc jf Z Zt (by decide) Z Z)<|ak 4 Z (zj (c:=.own _ _) Ye Z ⟨_,.head⟩ Z)<|ak 5 Z (d9 Z)<|bO 6 Z<|qm (m:=(aG s x).toNat) jr Yf Z Z Z Z Z (by omega) (by omega) (by show (8:Int)*_≤_;omega) (by omega)<|fun i316=>z7<|bO 7 Z<|yf (rows:=[[_]]) EG Z Z Z Z Z<|z7<|bO 8 Z<|ym (k:=1) Z9 type44 Z Z Z Z Z (fun _=>.t4) (by rw[iz hids];omega) (by decide) Z (by show (_+1)*24≤_;omega) (by show _+1≤_;omega)<|fun i318=>z7<|yr (i:=9) Z (by kernel_rfl) (by kernel_rfl) (by kernel_rfl) (by kernel_rfl) (zw Z)<|ak 10 Z (zc jf Z Zt (by decide) Z Z)<|yi<|yk (i:=11) Z (by kernel_rfl) (by kernel_rfl)<|yg (l:=[_]) (new:=[_,_,_,_,_,_,_,_,_,_,_,_,_,_,_,_,_,_,_,_,_,_,_]) Zt Z Z Z Z Z Z .head Z Z<|z7<|yl (by kernel_rfl)<|yc (aX.bagIn (X':=pE (ids++[i316]) (s.arrays++[List.replicate (aG s x).toNat 0])) .t1 (uK i316 _ hids) .t6)<|zq (fun j=>Nat.beq j 12) (by kernel_rfl) Z (zu (.r (.rest _)))<|ak 0 Z (eU Z)<|ak 1 Z (zw Z)<|ak 2 Z (zc jf Z jm (by decide) Z Z)<|ak 3 Z (zj (c:=.own _ _) jw Z ⟨_,.head⟩ Z)<|ak 4 Z (d9 Z)<|ak 5 Z (eU Z)<|ak 6 Z (zw Z)<|ak 7 Z (zc jf Z Zt (by decide) Z Z)<|ak 8 Z (zj (c:=.own _ _) Ye Z ⟨_,.head⟩ Z)<|ak 9 Z (Gv.lenO Z9 Z)<|ak 10 Z (Gv.sub Z Z (by unfold ko;simp only[List.length_cons,List.length_nil];omega))<|bO 11 Z<|za (yj (j:=x.dst.toNat) jd je Z Z (w8 d0).symm ⟨_,.t2⟩ ((aJ _).trans hl3) (by omega)) ?_
                       refine z7<|yi<|yk (i:=12) Z (by kernel_rfl) (by kernel_rfl)<|q8 (j:=x.dst.toNat) je Z Z .t3 (by first|omega|(simp;omega))<|z7<|yl (by kernel_rfl)<|q7 (zn (zp .t5))<|q7 (zn (zp .t5))<|q7 (zn (zp .t5))<|q7 (zn (zp .t5))<|q7 (zn (zp .t5))<|q7 (zn (zp .t5))<|yx ?_
                       exact ⟨i318,jt,ids++[i316],by rw[hI];simp[stA,hids],rfl,by rw[hI];exact Ji f iw ja jb jc i318 jt hids i316 (aG s x).toNat x.dst _ (by simp only[List.length_cons,List.length_nil];omega)⟩
                   ·have n15:¬x.op=15:=fun e=>c15 ((aR hop 15 (by decide) rfl).2 e)
                    refine ah<|za (yz Z Z)<|ad Z<|z7<|zm Z (fun c16=>?_) (fun c16=>?_)
                    ·have e:x.op=16:=(aR hop 16 (by decide) rfl).1 c16
                     obtain ⟨d1,d0⟩:=hx.made (by rw[e];decide)
                     have hI:bV s x=stA s x.dst (-1):=by rw[b9 hc];unfold doG;simp[e]
                     refine bi<|bn Z<|az Z<|za (zc jf Z jm (by decide) Z Z)<|za (zj (c:=.own _ _) jw Z ⟨_,.head⟩ Z)<|aa Z<|za (yj (j:=x.dst.toNat) jd je Z Z (w8 d0).symm ⟨_,.t3⟩ ((aJ _).trans hl3) (by omega))<|q8 (j:=x.dst.toNat) je Z Z .t3 (by first|omega|(simp;omega))<|z7<|yx ?_
                     exact ⟨jo,jt,ids,by rw[hI];exact hids,rfl,by rw[hI];rfl⟩
                    ·have n16:¬x.op=16:=fun e=>c16 ((aR hop 16 (by decide) rfl).2 e)
                     refine ah<|za (yz Z Z)<|ad Z<|z7<|zm Z (fun c17=>?_) (fun c17=>?_)
                     ·have e:x.op=17:=(aR hop 17 (by decide) rfl).1 c17
                      obtain ⟨rfl,_,_⟩:a=aG s x∧p=pG s x∧r=rG s x:=by have:=hu (by rw[hargc,e];decide);simpa using this
                      refine zb<|ah<|bn Z<|az Z<|za (zc jf Z Z7 (by decide) Z Z)<|za (zc jy Z Za (by decide) Z Z)<|za (zj (c:=.own _ _) Zk Z ⟨_,.head⟩ Z)<|za (Gv.lenO jr Z)<|za (ql Z Z)<|z7<|zm Z (fun ct=>?_) (fun ct=>?_)
                      ·have ct:4096≤s.trace.length:=by omega
                       have hI:bV s x=cP s 3:=by rw[b9 hc];unfold doG;simp[e,ct]
                       refine ah<|bn Z<|yu Z (zu (.l (.l (.l (.l (.l (.l (.l (.rest _))))))))) (dI f iw ja jb jc jo jt ids s 3) ?_
                       rintro r369 O369 ⟨rfl,rfl⟩
                       refine z7<|zf<|yx ?_
                       exact ⟨jo,jt,ids,by rw[hI];exact hids,rfl,by rw[hI];rfl⟩
                      ·have ct:¬4096≤s.trace.length:=by omega
                       have hI:bV s x={ s with trace:=s.trace++[aG s x] }:=by rw[b9 hc];unfold doG;simp[e,ct]
                       refine ze<|bi<|bn Z<|bn Z<|az Z<|za (zc jf Z Z7 (by decide) Z Z)<|za (zc jy Z Za (by decide) Z Z)<|za (zj (c:=.own _ _) Zk Z ⟨_,.head⟩ Z)<|aa Z<|yf (rows:=[[_]]) Jh Z Z Z Z Z<|ym (k:=1) jr Yf Z Z Z Z Z (fun _=>.t5) (by rw[aJ];omega) (by decide) Z (by show (_+1)*8≤_;omega) (by show _+1≤_;omega)<|fun i378=>az Z<|za (zc jf Z Z7 (by decide) Z Z)<|za (zc jy Z Za (by decide) Z Z)<|yg (l:=[_]) (new:=[_,_,_,_,_,_,_,_,_,_,_,_,_,_,_,_,_,_,_,_,_,_,_]) Za Z Z Z Z Z Z .head Z Z<|z7<|yx ?_
                       exact ⟨jo,i378,ids,by rw[hI];exact hids,rfl,by rw[hI];exact Jj f iw ja jb jc jo i378 _⟩
                     ·exfalso
                      have n17:¬x.op=17:=fun e=>c17 ((aR hop 17 (by decide) rfl).2 e)
                      omega
end Go.Proofs.YtjpnhkmfhlnpcaaGreatDoor
