/- The document's machine: is there a place, does a check pass. Of programs as they are run. -/
import Derived.Test.YtbbonnfjealmpaaGreatDoorZs
import Derived.Test.YtbbonnfjealmpaaGreatDoorZv
import Derived.Test.YtbbonnfjealmpaaGreatDoorZe
import Derived.Test.YtbbonnfjealmpaaGreatDoorZx
set_option linter.unusedVariables false
set_option linter.unusedSimpArgs false
set_option linter.unusedSectionVars false
namespace Go.Proofs.YtbbonnfjealmpaaGreatDoor
open Go.Proofs.Tryz
open Go.Proofs Go.Lib Go.Shelf Go.RowKit
variable {E:World}
set_option maxRecDepth 20000
def jH (ids:List Nat) (rs:List (List Int)):List AV:=List.zipWith (fun i r=>AV.own i r.length) ids rs
def IQ (i:Nat) (r:List Int):Nat × bC:=(i,.grow 1 2 (cI r))
def tf (ids:List Nat) (rs:List (List Int)):OL:=List.zipWith IQ ids rs
theorem jI {ids:List Nat} {rs:List (List Int)} (h:ids.length=rs.length):(jH ids rs).length=rs.length:=by unfold jH;simp[h]
theorem iQ:∀{ids:List Nat} {rs:List (List Int)} {j i:Nat} {r:List Int},ids[j]?=some i→rs[j]?=some r→(jH ids rs).drop j=.own i r.length::(jH ids rs).drop (j+1)
 |[],_,_,_,_,h,_=>by simp at h
 |_::_,[],_,_,_,_,h=>by simp at h
 |i::ids,r::rs,0,_,_,h1,h2=>by
  simp at h1 h2
  subst h1 h2;rfl
 |_::ids,_::rs,j+1,i,r,h1,h2=>iQ (ids:=ids) (rs:=rs) (by simpa using h1) (by simpa using h2)
theorem tg {ids:List Nat} {rs:List (List Int)} (h:ids.length=rs.length) {j:Nat} (hj:j<rs.length):∃i,ids[j]?=some i:=⟨_,qx (by omega)⟩
theorem tZ {l:List Int} {k:Nat} (h:k<l.length):l[k]?=some ((l[k]?).getD 0):=by
 rw[qx h];rfl
abbrev IR (f:ab) (ja jb jc jo jt:Nat) (s:GS):List AV:=bw f++[.own ja f.vars.length,.own jb f.vars.length,.own jc f.vars.length,.own jo s.arrays.length,.int .i64 s.blk,.int .i64 s.pc,.int .i64 s.en,.int .i64 s.val,.int .i64 s.tr,.own jt s.trace.length,.int .i64 s.st,.int .i64 (s.ck 0),.int .i64 (s.ck 1),.int .i64 (s.ck 2),.int .i64 (s.ck 3),.int .i64 (s.ck 4),.int .i64 (s.ck 5),.int .i64 (s.ck 6),.int .i64 (s.ck 7),.bool s.ended]
abbrev wR (ja jb jc jo jt:Nat) (ids:List Nat) (s:GS):OL:=[(ja,.grow 1 2 (cI s.ints)),(jb,.grow 1 4 (cB s.bools)),(jc,.grow 1 3 (cI s.arrs)),(jo,.grow 1 66 (jH ids s.arrays)),(jt,.grow 1 2 (cI s.trace)),(0,IJ (tf ids s.arrays))]
abbrev wO (f:ab) (iw ja jb jc jo jt:Nat) (ids:List Nat) (s:GS):OL:=(iw,.cells 99 (IR f ja jb jc jo jt s))::wR ja jb jc jo jt ids s
theorem eV (f:ab) (iw ja jb jc jo jt:Nat) (ids:List Nat) (s:GS) (e:Int):bn prog E 64 [.po iw 0,.int .i64 e] (wO f iw ja jb jc jo jt ids s) (fun y O=>y=.tup []∧O=wO f iw ja jb jc jo jt ids (dO s e)):=by
 refine zp func64 U (by decide) U<|aW<|bb U<|bb U<|aa U<|ax U<|z8 (zh jf U Yb (by decide) U U)<|z8 (zh Zk U sizeOf93 (by decide) U U)<|yn (l:=[_]) (new:=[_,_,_,_,_,_,_,_,_,_,_,_,_,_,_,_,_,_,_,_,_,_,_]) sizeOf93 U U U U U U .head U U<|ax U<|z8 (zh jf U Zb (by decide) U U)<|yn (l:=[_]) (new:=[_,_,_,_,_,_,_,_,_,_,_,_,_,_,_,_,_,_,_,_,_,_,_]) Zb U U U U U U .head U U<|z2<|yy ?_
 exact ⟨rfl,rfl⟩
theorem mj (f:ab) (iw ja jb jc jo jt:Nat) (ids:List Nat) (s:GS) (a i:Int) (hids:ids.length=s.arrays.length):bn prog E 98 [.po iw 0,.int .i64 a,.int .i64 i] (wO f iw ja jb jc jo jt ids s) (fun y O=>y=.bool (dv s a i)∧O=wO f iw ja jb jc jo jt ids s):=by
 refine zp func98 U (by decide) U<|ae<|ad U<|z2<|ae<|aa U<|z8 (q9 U U)<|aq U<|zt (s:=9) U (fun c1=>?_) (fun c1=>?_)
 ·have h1:0≤a:=by simpa using c1
  refine z7 U U c1<|aa U<|z7 U U c1<|bb U<|z7 U U c1<|ax U<|z7 U U c1<|z8 (zh jf U Yh (by decide) U U)<|z7 U U c1<|z8 (zq (c:=.own _ _) X3 U ⟨_,.head⟩ U)<|z7 U U c1<|z8 (qp Zm U)<|z7 U U c1<|ap U U<|au U c1 U<|aq U<|zt (s:=18) U (fun c2=>?_) (fun c2=>?_)
  ·have h2:a<s.arrays.length:=by simpa using c2
   refine z7 U U c2<|aa U<|z7 U U c2<|z8 (q9 U U)<|au U c2 U<|aq U<|zt (s:=22) U (fun c3=>?_) (fun c3=>?_)
   ·have h3:0≤i:=by simpa using c3
    obtain ⟨q,hq⟩:=tg hids (j:=a.toNat) (by omega)
    refine z7 U U c3<|aa U<|z7 U U c3<|bb U<|z7 U U c3<|ax U<|z7 U U c3<|z8 (zh jf U Yh (by decide) U U)<|z7 U U c3<|z8 (zq (c:=.own _ _) X3 U ⟨_,.head⟩ U)<|z7 U U c3<|aa U<|z7 U U c3<|z8 (yd (j:=a.toNat) Zm Zx U U (by omega) ⟨_,.t4⟩ (jI hids) (by omega))<|z7 U U c3<|z8 (qv (c:=_) Ye U ⟨_,.t4⟩ (iQ hq (iF h1 h2)))<|z7 U U c3<|z8 (qp Z5 U)<|z7 U U c3<|ap U U<|au U c3 U<|ad U<|z2<|zg<|zm (x:=.bool _) U ?_
    exact ⟨congrArg AV.bool (by unfold dv;simp[h1,h2,h3]),rfl⟩
   ·have h3:¬0≤i:=by simpa using c3
    refine z6 U U c3<|z6 U U c3<|z6 U U c3<|z6 U U c3<|z6 U U c3<|z6 U U c3<|z6 U U c3<|z6 U U c3<|z6 U U c3<|z6 U U c3<|aw U c3 U<|ad U<|z2<|zg<|zm (x:=.bool _) U ?_
    exact ⟨congrArg AV.bool (by unfold dv;simp[h1,h2,h3]),rfl⟩
  ·have h2:¬a<s.arrays.length:=by simpa using c2
   refine z6 U U c2<|z6 U U c2<|aw U c2 U<|aq U<|z6 U U U<|z6 U U U<|z6 U U U<|z6 U U U<|z6 U U U<|z6 U U U<|z6 U U U<|z6 U U U<|z6 U U U<|z6 U U U<|aw U U U<|ad U<|z2<|zg<|zm (x:=.bool _) U ?_
   exact ⟨congrArg AV.bool (by unfold dv;simp[h1,h2]),rfl⟩
 ·have h1:¬0≤a:=by simpa using c1
  refine z6 U U c1<|z6 U U c1<|z6 U U c1<|z6 U U c1<|z6 U U c1<|z6 U U c1<|z6 U U c1<|aw U c1 U<|aq U<|z6 U U U<|z6 U U U<|aw U U U<|aq U<|z6 U U U<|z6 U U U<|z6 U U U<|z6 U U U<|z6 U U U<|z6 U U U<|z6 U U U<|z6 U U U<|z6 U U U<|z6 U U U<|aw U U U<|ad U<|z2<|zg<|zm (x:=.bool _) U ?_
  exact ⟨congrArg AV.bool (by unfold dv;simp[h1]),rfl⟩
theorem Ee:∀j:Nat,j<27→∀k:Nat,k<27→decide ((cH (j:Int)).1=(cH (k:Int)).1)=decide (j=k):=by decide
theorem aZ {op:Int} (h:0≤op∧op≤26) (k:Nat) (hk:k<27) {b:ByteArray} (hb:(cH (k:Int)).1=b):((cH op).1=b)↔op=(k:Int):=by
 subst hb
 obtain ⟨j,rfl⟩:∃j:Nat,op=(j:Int):=⟨op.toNat,by omega⟩
 have:=Ee j (by omega) k hk
 rw[decide_eq_decide] at this
 rw[this];omega
def BD (f:ab) (op:Int) (l:List Int):Prop:=18≤op∧op≤24∧0<l.length∧∀v∈l,v<f.vars.length∧0≤v
theorem CA {f:ab} {op:Int} {l:List Int} (h:BD f op l) {k:Nat} (hk:k<l.length):(l[k]?).getD 0<f.vars.length∧0≤(l[k]?).getD 0:=by
 rw[qx hk];exact h.2.2.2 _ (w3 hk)
theorem vY (f:ab) (iw ja jb jc jo jt:Nat) (ids:List Nat) (s:GS) (op:Int) (l:List Int) (hids:ids.length=s.arrays.length) (hg:bA f s) (ho:BD f op l):bn prog E 95 [.po iw 0,.str (cH op).1,.fro 1 (l.map bO)] (wO f iw ja jb jc jo jt ids s) (fun y O=>y=.bool (fp s op l)∧O=wO f iw ja jb jc jo jt ids s):=by
 have hop:0≤op∧op≤26:=by have:=ho.1;have:=ho.2.1;omega
 obtain ⟨q0,r0⟩:=CA ho ho.2.2.1
 obtain ⟨v0,hv0⟩:∃v,(l[0]?).getD 0=v:=⟨_,rfl⟩
 rw[hv0] at q0 r0
 have hl1:=hg.li
 have hl3:=hg.la
 have ha64:bg (vi s.ints v0):=mT hg.i64
 refine zp func95 U (by decide) U<|ae<|ad U<|z2<|zb<|zr (fun j=>false) (by kernel_rfl) U (zo (.r (.r (.rest _))))<|ai 0 U (dR U)<|ai 1 U (zy U)<|ai 2 U (zh jf U Zx (by decide) U U)<|ai 3 U (zq (c:=.own _ _) Ye U ⟨_,.head⟩ U)<|ai 4 U (vZ U)<|ai 5 U (bB 0 j7 j9 U U U ((tZ ho.2.2.1).trans (by rw[hv0]))) ?_
 refine ai 6 U (dQ jg U)<|ai 7 U (yd (j:=v0.toNat) Z5 Z1 U U (by omega) ⟨_,.t1⟩ ((aF _).trans hl1) (by omega))<|ai 8 U (yw (j:=v0.toNat) Zc U ⟨_,.t1⟩ (fR (by omega) r0))<|ai 9 U (BI U)<|bI<|ae<|am U<|z2<|zb<|ae<|bd U<|aj j7 U<|be U U<|z2<|yb (γ:=Int) [0,1,2,7] (fun u=>[(8,.i u)]) (fun u=>wO f iw ja jb jc jo jt ids s) (fun u=>u=wn l s.ints) ?_ (fun _ _ h=>h) ?_
 ·refine zn U (fun c=>?_) (fun c=>?_)
  ·have c:1<l.length:=by omega
   obtain ⟨q1,r1⟩:=CA ho c
   obtain ⟨v1,hv1⟩:∃v,(l[1]?).getD 0=v:=⟨_,rfl⟩
   rw[hv1] at q1 r1
   refine zr (fun j=>false) (by kernel_rfl) U (zo (.r (.r (.rest _))))<|ai 0 U (dR U)<|ai 1 U (zy U)<|ai 2 U (zh jf U Zx (by decide) U U)<|ai 3 U (zq (c:=.own _ _) Ye U ⟨_,.head⟩ U)<|ai 4 U (vZ U)<|ai 5 U (bB 1 j7 j9 U U U ((tZ c).trans (by rw[hv1]))) ?_
   refine ai 6 U (dQ jg U)<|ai 7 U (yd (j:=v1.toNat) Z5 Z1 U U (by omega) ⟨_,.t1⟩ ((aF _).trans hl1) (by omega))<|ai 8 U (yw (j:=v1.toNat) Zc U ⟨_,.t1⟩ (fR (by omega) r1))<|ai 9 U (BI U)<|bI ?_
   exact ⟨_,fC,aL,aE,by unfold wn;rw[if_pos c,hv1]⟩
  ·have c:¬1<l.length:=by omega
   refine zf ?_
   exact ⟨_,fC,aL,aE,by unfold wn;rw[if_neg c]⟩
 ·rintro u hu
  have hb64:bg u:=by
   rw[hu];unfold wn;split
   ·exact mT hg.i64
   ·exact ⟨by decide,by decide⟩
  refine zb<|ae<|z8 (yt (v:=.str _) U)<|z2<|zi<|ae<|z8 (q7 U U)<|ad U<|z2<|zn U (fun c18=>?_) (fun c18=>?_)
  ·have e:op=18:=(aZ hop 18 (by decide) rfl).1 c18
   refine zb<|zr (fun j=>false) (by kernel_rfl) U (zo (.rest _))<|ai 0 U (dR U)<|ai 1 U (dR U)<|ai 2 U (zy U)<|ai 3 U (zh jf U jh (by decide) U U)<|ai 5 U (vZ U)<|ai 6 U (bB 0 j7 j9 U U U ((tZ ho.2.2.1).trans (by rw[hv0]))) ?_
   refine ai 7 U (dQ jg U)<|ai 10 U (dx U)<|aN 4 U<|z8 (zq (c:=.own _ _) jx U ⟨_,.head⟩ U)<|z2<|aN 8 U<|z8 (yd (j:=v0.toNat) j7 j9 U U (by omega) ⟨_,.t3⟩ ((aF _).trans hl3) (by omega))<|z2<|aN 9 U<|z8 (yw (j:=v0.toNat) jg U ⟨_,.t3⟩ (fR (by omega) r0))<|z2<|aN 11 U<|y3 U (zo (.l (.l (.l (.l (.l (.l (.l (.rest _))))))))) (mj f iw ja jb jc jo jt ids s (vi s.arrs v0) u hids) ?_
   rintro r44 O44 ⟨rfl,rfl⟩
   refine z2<|ai 12 U (qO U)<|bI<|zg<|zm (x:=.bool _) U ?_
   exact ⟨by unfold fp;rw[if_pos e,hv0,hu],rfl⟩
  ·have n18:¬op=18:=fun e=>c18 ((aZ hop 18 (by decide) rfl).2 e)
   refine ae<|z8 (q7 U U)<|ad U<|z2<|zn U (fun c19=>?_) (fun c19=>?_)
   ·have e:op=19:=(aZ hop 19 (by decide) rfl).1 c19
    refine zb<|zr (fun j=>false) (by kernel_rfl) U (zo (.r (.l (.l (.r (.rest _))))))<|ai 0 U (dR U)<|ai 1 U (zy U)<|ai 2 U (zh jf U jh (by decide) U U)<|ai 3 U (zq (c:=.own _ _) jx U ⟨_,.head⟩ U)<|ai 4 U (vZ U)<|ai 5 U (bB 0 j7 j9 U U U ((tZ ho.2.2.1).trans (by rw[hv0]))) ?_
    refine ai 6 U (dQ jg U)<|ai 7 U (yd (j:=v0.toNat) j7 j9 U U (by omega) ⟨_,.t1⟩ ((aF _).trans hl3) (by omega))<|ai 8 U (yw (j:=v0.toNat) jg U ⟨_,.t1⟩ (fR (by omega) r0))<|ai 9 U (q9 U U)<|ai 10 U (qO U)<|bI<|y7 (za (zc .t3))<|y7 (za (zc .t3))<|y7 (za (zc .t2))<|zg<|zm (x:=.bool _) U ?_
    exact ⟨by unfold fp;rw[if_neg n18,if_pos e,hv0],rfl⟩
   ·have n19:¬op=19:=fun e=>c19 ((aZ hop 19 (by decide) rfl).2 e)
    refine ae<|z8 (q7 U U)<|ad U<|z2<|zn U (fun c20=>?_) (fun c20=>?_)
    ·have e:op=20:=(aZ hop 20 (by decide) rfl).1 c20
     refine ae<|aa U<|aO U U<|ad U<|z2<|zg<|zm (x:=.bool _) U ?_
     exact ⟨by unfold fp;rw[if_neg n18,if_neg n19,if_pos e,hv0];simp,rfl⟩
    ·have n20:¬op=20:=fun e=>c20 ((aZ hop 20 (by decide) rfl).2 e)
     refine ae<|z8 (q7 U U)<|ad U<|z2<|zn U (fun c21=>?_) (fun c21=>?_)
     ·have e:op=21:=(aZ hop 21 (by decide) rfl).1 c21
      refine ae<|aa U<|aa U<|ze (Ax (k:=0) (by decide) ha64 hb64) U<|ad U<|z2<|zg<|zm (x:=.bool _) U ?_
      exact ⟨by unfold fp;rw[if_neg n18,if_neg n19,if_neg n20,if_pos e,hv0,hu],rfl⟩
     ·have n21:¬op=21:=fun e=>c21 ((aZ hop 21 (by decide) rfl).2 e)
      refine ae<|z8 (q7 U U)<|ad U<|z2<|zn U (fun c22=>?_) (fun c22=>?_)
      ·have e:op=22:=(aZ hop 22 (by decide) rfl).1 c22
       refine ae<|aa U<|aa U<|ze (Ax (k:=1) (by decide) ha64 hb64) U<|ad U<|z2<|zg<|zm (x:=.bool _) U ?_
       exact ⟨by unfold fp;rw[if_neg n18,if_neg n19,if_neg n20,if_neg n21,if_pos e,hv0,hu],rfl⟩
      ·have n22:¬op=22:=fun e=>c22 ((aZ hop 22 (by decide) rfl).2 e)
       refine ae<|z8 (q7 U U)<|ad U<|z2<|zn U (fun c23=>?_) (fun c23=>?_)
       ·have e:op=23:=(aZ hop 23 (by decide) rfl).1 c23
        refine ae<|aa U<|aa U<|ze (Ax (k:=2) (by decide) ha64 hb64) U<|ad U<|z2<|zg<|zm (x:=.bool _) U ?_
        exact ⟨by unfold fp;rw[if_neg n18,if_neg n19,if_neg n20,if_neg n21,if_neg n22,if_pos e,hv0,hu],rfl⟩
       ·have n23:¬op=23:=fun e=>c23 ((aZ hop 23 (by decide) rfl).2 e)
        refine zf<|ae<|aa U<|z8 (q9 U U)<|aq U<|zt (s:=78) U (fun cz=>?_) (fun cz=>?_)
        ·have h0:0≤vi s.ints v0:=by simpa using cz
         refine z7 U U cz<|aa U<|z7 U U cz<|z8 (Gv.leq U U)<|au U cz U<|ad U<|z2<|zg<|zm (x:=.bool _) U ?_
         exact ⟨congrArg AV.bool (by unfold fp;rw[if_neg n18,if_neg n19,if_neg n20,if_neg n21,if_neg n22,if_neg n23,hv0];simp[h0]),rfl⟩
        ·have h0:¬0≤vi s.ints v0:=by simpa using cz
         refine z6 U U cz<|z6 U U cz<|aw U cz U<|ad U<|z2<|zg<|zm (x:=.bool _) U ?_
         exact ⟨congrArg AV.bool (by unfold fp;rw[if_neg n18,if_neg n19,if_neg n20,if_neg n21,if_neg n22,if_neg n23,hv0];simp[h0]),rfl⟩
end Go.Proofs.YtbbonnfjealmpaaGreatDoor
