/- The document's machine: is there a place, does a check pass. Of programs as they are run. -/
import Derived.Test.YtjpnhkmfhlnpcaaGreatDoorZh
import Derived.Test.YtjpnhkmfhlnpcaaGreatDoorZm
import Derived.Test.YtjpnhkmfhlnpcaaGreatDoorZl
set_option linter.unusedVariables false
set_option linter.unusedSimpArgs false
set_option linter.unusedSectionVars false
namespace Go.Proofs.YtjpnhkmfhlnpcaaGreatDoor
open Go.Proofs.Tryz
open Go.Proofs Go.Lib Go.Shelf Go.RowKit
variable {E:World}
set_option maxRecDepth 20000
def gm (ids:List Nat) (rs:List (List Int)):List AV:=List.zipWith (fun i r=>AV.own i r.length) ids rs
def GQ (i:Nat) (r:List Int):Nat × bF:=(i,.grow 1 2 (cI r))
def pE (ids:List Nat) (rs:List (List Int)):OL:=List.zipWith GQ ids rs
theorem iz {ids:List Nat} {rs:List (List Int)} (h:ids.length=rs.length):(gm ids rs).length=rs.length:=by unfold gm;simp[h]
theorem iA:∀{ids:List Nat} {rs:List (List Int)} {j i:Nat} {r:List Int},ids[j]?=some i→rs[j]?=some r→(gm ids rs).drop j=.own i r.length::(gm ids rs).drop (j+1)
 |[],_,_,_,_,h,_=>by simp at h
 |_::_,[],_,_,_,_,h=>by simp at h
 |i::ids,r::rs,0,_,_,h1,h2=>by
  simp at h1 h2
  subst h1 h2;rfl
 |_::ids,_::rs,j+1,i,r,h1,h2=>iA (ids:=ids) (rs:=rs) (by simpa using h1) (by simpa using h2)
theorem sK {ids:List Nat} {rs:List (List Int)} (h:ids.length=rs.length) {j:Nat} (hj:j<rs.length):∃i,ids[j]?=some i:=⟨_,qq (by omega)⟩
theorem qR {l:List Int} {k:Nat} (h:k<l.length):l[k]?=some ((l[k]?).getD 0):=by
 rw[qq h];rfl
abbrev GR (f:ab) (ja jb jc jo jt:Nat) (s:GS):List AV:=bQ f++[.own ja f.vars.length,.own jb f.vars.length,.own jc f.vars.length,.own jo s.arrays.length,.int .i64 s.blk,.int .i64 s.pc,.int .i64 s.en,.int .i64 s.val,.int .i64 s.tr,.own jt s.trace.length,.int .i64 s.st,.int .i64 (s.ck 0),.int .i64 (s.ck 1),.int .i64 (s.ck 2),.int .i64 (s.ck 3),.int .i64 (s.ck 4),.int .i64 (s.ck 5),.int .i64 (s.ck 6),.int .i64 (s.ck 7),.bool s.ended]
abbrev wR (ja jb jc jo jt:Nat) (ids:List Nat) (s:GS):OL:=[(ja,.grow 1 2 (cI s.ints)),(jb,.grow 1 4 (cB s.bools)),(jc,.grow 1 3 (cI s.arrs)),(jo,.grow 1 44 (gm ids s.arrays)),(jt,.grow 1 2 (cI s.trace)),(0,ur (pE ids s.arrays))]
abbrev wO (f:ab) (iw ja jb jc jo jt:Nat) (ids:List Nat) (s:GS):OL:=(iw,.cells 52 (GR f ja jb jc jo jt s))::wR ja jb jc jo jt ids s
theorem dI (f:ab) (iw ja jb jc jo jt:Nat) (ids:List Nat) (s:GS) (e:Int):bY prog E 31 [.po iw 0,.int .i64 e] (wO f iw ja jb jc jo jt ids s) (fun y O=>y=.tup []∧O=wO f iw ja jb jc jo jt ids (cP s e)):=by
 refine zo func31 Z (by decide) Z<|bi<|bn Z<|bn Z<|aa Z<|az Z<|za (zc jf Z Z7 (by decide) Z Z)<|za (zc jy Z sizeOf46 (by decide) Z Z)<|yg (l:=[_]) (new:=[_,_,_,_,_,_,_,_,_,_,_,_,_,_,_,_,_,_,_,_,_,_,_]) sizeOf46 Z Z Z Z Z Z .head Z Z<|az Z<|za (zc jf Z Z3 (by decide) Z Z)<|yg (l:=[_]) (new:=[_,_,_,_,_,_,_,_,_,_,_,_,_,_,_,_,_,_,_,_,_,_,_]) Z3 Z Z Z Z Z Z .head Z Z<|z7<|yx ?_
 exact ⟨rfl,rfl⟩
theorem kh (f:ab) (iw ja jb jc jo jt:Nat) (ids:List Nat) (s:GS) (a i:Int) (hids:ids.length=s.arrays.length):bY prog E 56 [.po iw 0,.int .i64 a,.int .i64 i] (wO f iw ja jb jc jo jt ids s) (fun y O=>y=.bool (dp s a i)∧O=wO f iw ja jb jc jo jt ids s):=by
 refine zo func56 Z (by decide) Z<|ah<|ad Z<|z7<|ah<|aa Z<|za (ql Z Z)<|ai Z<|zk (s:=9) Z (fun c1=>?_) (fun c1=>?_)
 ·have h1:0≤a:=by simpa using c1
  refine z8 Z Z c1<|aa Z<|z8 Z Z c1<|bn Z<|z8 Z Z c1<|az Z<|z8 Z Z c1<|za (zc jf Z Zt (by decide) Z Z)<|z8 Z Z c1<|za (zj (c:=.own _ _) Ye Z ⟨_,.head⟩ Z)<|z8 Z Z c1<|za (Gv.lenO Z9 Z)<|z8 Z Z c1<|ay Z Z<|ap Z c1 Z<|ai Z<|zk (s:=18) Z (fun c2=>?_) (fun c2=>?_)
  ·have h2:a<s.arrays.length:=by simpa using c2
   refine z8 Z Z c2<|aa Z<|z8 Z Z c2<|za (ql Z Z)<|ap Z c2 Z<|ai Z<|zk (s:=22) Z (fun c3=>?_) (fun c3=>?_)
   ·have h3:0≤i:=by simpa using c3
    obtain ⟨q,hq⟩:=sK hids (j:=a.toNat) (by omega)
    refine z8 Z Z c3<|aa Z<|z8 Z Z c3<|bn Z<|z8 Z Z c3<|az Z<|z8 Z Z c3<|za (zc jf Z Zt (by decide) Z Z)<|z8 Z Z c3<|za (zj (c:=.own _ _) Ye Z ⟨_,.head⟩ Z)<|z8 Z Z c3<|aa Z<|z8 Z Z c3<|za (yj (j:=a.toNat) Z9 Za Z Z (by omega) ⟨_,.t4⟩ (iz hids) (by omega))<|z8 Z Z c3<|za (Gv.load1G (c:=_) Zk Z ⟨_,.t4⟩ (iA hq (gK h1 h2)))<|z8 Z Z c3<|za (Gv.lenO jr Z)<|z8 Z Z c3<|ay Z Z<|ap Z c3 Z<|ad Z<|z7<|zf<|zh (x:=.bool _) Z ?_
    exact ⟨congrArg AV.bool (by unfold dp;simp[h1,h2,h3]),rfl⟩
   ·have h3:¬0≤i:=by simpa using c3
    refine z6 Z Z c3<|z6 Z Z c3<|z6 Z Z c3<|z6 Z Z c3<|z6 Z Z c3<|z6 Z Z c3<|z6 Z Z c3<|z6 Z Z c3<|z6 Z Z c3<|z6 Z Z c3<|al Z c3 Z<|ad Z<|z7<|zf<|zh (x:=.bool _) Z ?_
    exact ⟨congrArg AV.bool (by unfold dp;simp[h1,h2,h3]),rfl⟩
  ·have h2:¬a<s.arrays.length:=by simpa using c2
   refine z6 Z Z c2<|z6 Z Z c2<|al Z c2 Z<|ai Z<|z6 Z Z Z<|z6 Z Z Z<|z6 Z Z Z<|z6 Z Z Z<|z6 Z Z Z<|z6 Z Z Z<|z6 Z Z Z<|z6 Z Z Z<|z6 Z Z Z<|z6 Z Z Z<|al Z Z Z<|ad Z<|z7<|zf<|zh (x:=.bool _) Z ?_
   exact ⟨congrArg AV.bool (by unfold dp;simp[h1,h2]),rfl⟩
 ·have h1:¬0≤a:=by simpa using c1
  refine z6 Z Z c1<|z6 Z Z c1<|z6 Z Z c1<|z6 Z Z c1<|z6 Z Z c1<|z6 Z Z c1<|z6 Z Z c1<|al Z c1 Z<|ai Z<|z6 Z Z Z<|z6 Z Z Z<|al Z Z Z<|ai Z<|z6 Z Z Z<|z6 Z Z Z<|z6 Z Z Z<|z6 Z Z Z<|z6 Z Z Z<|z6 Z Z Z<|z6 Z Z Z<|z6 Z Z Z<|z6 Z Z Z<|z6 Z Z Z<|al Z Z Z<|ad Z<|z7<|zf<|zh (x:=.bool _) Z ?_
  exact ⟨congrArg AV.bool (by unfold dp;simp[h1]),rfl⟩
theorem C0:∀j:Nat,j<27→∀k:Nat,k<27→decide ((bM (j:Int)).1=(bM (k:Int)).1)=decide (j=k):=by decide
theorem aR {op:Int} (h:0≤op∧op≤26) (k:Nat) (hk:k<27) {b:ByteArray} (hb:(bM (k:Int)).1=b):((bM op).1=b)↔op=(k:Int):=by
 subst hb
 obtain ⟨j,rfl⟩:∃j:Nat,op=(j:Int):=⟨op.toNat,by omega⟩
 have:=C0 j (by omega) k hk
 rw[decide_eq_decide] at this
 rw[this];omega
def wk (f:ab) (op:Int) (l:List Int):Prop:=18≤op∧op≤24∧0<l.length∧∀v∈l,v<f.vars.length∧0≤v
theorem xS {f:ab} {op:Int} {l:List Int} (h:wk f op l) {k:Nat} (hk:k<l.length):(l[k]?).getD 0<f.vars.length∧0≤(l[k]?).getD 0:=by
 rw[qq hk];exact h.2.2.2 _ (qu hk)
theorem sL (f:ab) (iw ja jb jc jo jt:Nat) (ids:List Nat) (s:GS) (op:Int) (l:List Int) (hids:ids.length=s.arrays.length) (hg:bB f s) (ho:wk f op l):bY prog E 53 [.po iw 0,.str (bM op).1,.fro 1 (l.map b5)] (wO f iw ja jb jc jo jt ids s) (fun y O=>y=.bool (ed s op l)∧O=wO f iw ja jb jc jo jt ids s):=by
 have hop:0≤op∧op≤26:=by have:=ho.1;have:=ho.2.1;omega
 obtain ⟨q0,r0⟩:=xS ho ho.2.2.1
 obtain ⟨v0,hv0⟩:∃v,(l[0]?).getD 0=v:=⟨_,rfl⟩
 rw[hv0] at q0 r0
 have hl1:=hg.li
 have hl3:=hg.la
 have ha64:cG (vi s.ints v0):=rF hg.i64
 refine zo func53 Z (by decide) Z<|ah<|ad Z<|z7<|zb<|zq (fun j=>false) (by kernel_rfl) Z (zu (.r (.r (.rest _))))<|ak 0 Z (eU Z)<|ak 1 Z (zw Z)<|ak 2 Z (zc jf Z Za (by decide) Z Z)<|ak 3 Z (zj (c:=.own _ _) Zk Z ⟨_,.head⟩ Z)<|ak 4 Z (vu Z)<|ak 5 Z (cH 0 jd je Z Z Z ((qR ho.2.2.1).trans (by rw[hv0]))) ?_
 refine ak 6 Z (gH jj Z)<|ak 7 Z (yj (j:=v0.toNat) jr Z8 Z Z (by omega) ⟨_,.t1⟩ ((aJ _).trans hl1) (by omega))<|ak 8 Z (qn (j:=v0.toNat) Y9 Z ⟨_,.t1⟩ (fa (by omega) r0))<|ak 9 Z (Il Z)<|eG<|ah<|aw Z<|z7<|zb<|ah<|bC Z<|ae jd Z<|za (yy Z Z)<|z7<|yq (γ:=Int) [0,1,2,7] (fun u=>[(8,.int .i64 u)]) (fun u=>wO f iw ja jb jc jo jt ids s) (fun u=>u=Ek l s.ints) ?_ (fun _ _ h=>h) ?_
 ·refine zm Z (fun c=>?_) (fun c=>?_)
  ·have c:1<l.length:=by omega
   obtain ⟨q1,r1⟩:=xS ho c
   obtain ⟨v1,hv1⟩:∃v,(l[1]?).getD 0=v:=⟨_,rfl⟩
   rw[hv1] at q1 r1
   refine zq (fun j=>false) (by kernel_rfl) Z (zu (.r (.r (.rest _))))<|ak 0 Z (eU Z)<|ak 1 Z (zw Z)<|ak 2 Z (zc jf Z Za (by decide) Z Z)<|ak 3 Z (zj (c:=.own _ _) Zk Z ⟨_,.head⟩ Z)<|ak 4 Z (vu Z)<|ak 5 Z (cH 1 jd je Z Z Z ((qR c).trans (by rw[hv1]))) ?_
   refine ak 6 Z (gH jj Z)<|ak 7 Z (yj (j:=v1.toNat) jr Z8 Z Z (by omega) ⟨_,.t1⟩ ((aJ _).trans hl1) (by omega))<|ak 8 Z (qn (j:=v1.toNat) Y9 Z ⟨_,.t1⟩ (fa (by omega) r1))<|ak 9 Z (Il Z)<|eG ?_
   exact ⟨_,gY,aW,aN,by unfold Ek;rw[if_pos c,hv1]⟩
  ·have c:¬1<l.length:=by omega
   refine ze ?_
   exact ⟨_,gY,aW,aN,by unfold Ek;rw[if_neg c]⟩
 ·rintro u hu
  have hb64:cG u:=by
   rw[hu];unfold Ek;split
   ·exact rF hg.i64
   ·exact ⟨by decide,by decide⟩
  refine zb<|ah<|za (yh (v:=.str _) Z)<|z7<|zg<|ah<|za (yz Z Z)<|ad Z<|z7<|zm Z (fun c18=>?_) (fun c18=>?_)
  ·have e:op=18:=(aR hop 18 (by decide) rfl).1 c18
   refine zb<|zq (fun j=>false) (by kernel_rfl) Z (zu (.rest _))<|ak 0 Z (eU Z)<|ak 1 Z (eU Z)<|ak 2 Z (zw Z)<|ak 3 Z (zc jf Z jm (by decide) Z Z)<|ak 5 Z (vu Z)<|ak 6 Z (cH 0 jd je Z Z Z ((qR ho.2.2.1).trans (by rw[hv0]))) ?_
   refine ak 7 Z (gH jj Z)<|ak 10 Z (d9 Z)<|bO 4 Z<|za (zj (c:=.own _ _) jw Z ⟨_,.head⟩ Z)<|z7<|bO 8 Z<|za (yj (j:=v0.toNat) jd je Z Z (by omega) ⟨_,.t3⟩ ((aJ _).trans hl3) (by omega))<|z7<|bO 9 Z<|za (qn (j:=v0.toNat) jj Z ⟨_,.t3⟩ (fa (by omega) r0))<|z7<|bO 11 Z<|yu Z (zu (.l (.l (.l (.l (.l (.l (.l (.rest _))))))))) (kh f iw ja jb jc jo jt ids s (vi s.arrs v0) u hids) ?_
   rintro r44 O44 ⟨rfl,rfl⟩
   refine z7<|ak 12 Z (xg Z)<|eG<|zf<|zh (x:=.bool _) Z ?_
   exact ⟨by unfold ed;rw[if_pos e,hv0,hu],rfl⟩
  ·have n18:¬op=18:=fun e=>c18 ((aR hop 18 (by decide) rfl).2 e)
   refine ah<|za (yz Z Z)<|ad Z<|z7<|zm Z (fun c19=>?_) (fun c19=>?_)
   ·have e:op=19:=(aR hop 19 (by decide) rfl).1 c19
    refine zb<|zq (fun j=>false) (by kernel_rfl) Z (zu (.r (.l (.l (.r (.rest _))))))<|ak 0 Z (eU Z)<|ak 1 Z (zw Z)<|ak 2 Z (zc jf Z jm (by decide) Z Z)<|ak 3 Z (zj (c:=.own _ _) jw Z ⟨_,.head⟩ Z)<|ak 4 Z (vu Z)<|ak 5 Z (cH 0 jd je Z Z Z ((qR ho.2.2.1).trans (by rw[hv0]))) ?_
    refine ak 6 Z (gH jj Z)<|ak 7 Z (yj (j:=v0.toNat) jd je Z Z (by omega) ⟨_,.t1⟩ ((aJ _).trans hl3) (by omega))<|ak 8 Z (qn (j:=v0.toNat) jj Z ⟨_,.t1⟩ (fa (by omega) r0))<|ak 9 Z (ql Z Z)<|ak 10 Z (xg Z)<|eG<|yc (zn (zp .t3))<|yc (zn (zp .t3))<|yc (zn (zp .t2))<|zf<|zh (x:=.bool _) Z ?_
    exact ⟨by unfold ed;rw[if_neg n18,if_pos e,hv0],rfl⟩
   ·have n19:¬op=19:=fun e=>c19 ((aR hop 19 (by decide) rfl).2 e)
    refine ah<|za (yz Z Z)<|ad Z<|z7<|zm Z (fun c20=>?_) (fun c20=>?_)
    ·have e:op=20:=(aR hop 20 (by decide) rfl).1 c20
     refine ah<|aa Z<|za (yn Z Z)<|ad Z<|z7<|zf<|zh (x:=.bool _) Z ?_
     exact ⟨by unfold ed;rw[if_neg n18,if_neg n19,if_pos e,hv0];simp,rfl⟩
    ·have n20:¬op=20:=fun e=>c20 ((aR hop 20 (by decide) rfl).2 e)
     refine ah<|za (yz Z Z)<|ad Z<|z7<|zm Z (fun c21=>?_) (fun c21=>?_)
     ·have e:op=21:=(aR hop 21 (by decide) rfl).1 c21
      refine ah<|aa Z<|aa Z<|zi (wj (k:=0) (by decide) ha64 hb64) Z<|ad Z<|z7<|zf<|zh (x:=.bool _) Z ?_
      exact ⟨by unfold ed;rw[if_neg n18,if_neg n19,if_neg n20,if_pos e,hv0,hu],rfl⟩
     ·have n21:¬op=21:=fun e=>c21 ((aR hop 21 (by decide) rfl).2 e)
      refine ah<|za (yz Z Z)<|ad Z<|z7<|zm Z (fun c22=>?_) (fun c22=>?_)
      ·have e:op=22:=(aR hop 22 (by decide) rfl).1 c22
       refine ah<|aa Z<|aa Z<|zi (wj (k:=1) (by decide) ha64 hb64) Z<|ad Z<|z7<|zf<|zh (x:=.bool _) Z ?_
       exact ⟨by unfold ed;rw[if_neg n18,if_neg n19,if_neg n20,if_neg n21,if_pos e,hv0,hu],rfl⟩
      ·have n22:¬op=22:=fun e=>c22 ((aR hop 22 (by decide) rfl).2 e)
       refine ah<|za (yz Z Z)<|ad Z<|z7<|zm Z (fun c23=>?_) (fun c23=>?_)
       ·have e:op=23:=(aR hop 23 (by decide) rfl).1 c23
        refine ah<|aa Z<|aa Z<|zi (wj (k:=2) (by decide) ha64 hb64) Z<|ad Z<|z7<|zf<|zh (x:=.bool _) Z ?_
        exact ⟨by unfold ed;rw[if_neg n18,if_neg n19,if_neg n20,if_neg n21,if_neg n22,if_pos e,hv0,hu],rfl⟩
       ·have n23:¬op=23:=fun e=>c23 ((aR hop 23 (by decide) rfl).2 e)
        refine ze<|ah<|aa Z<|za (ql Z Z)<|ai Z<|zk (s:=78) Z (fun cz=>?_) (fun cz=>?_)
        ·have h0:0≤vi s.ints v0:=by simpa using cz
         refine z8 Z Z cz<|aa Z<|z8 Z Z cz<|za (Gv.leq Z Z)<|ap Z cz Z<|ad Z<|z7<|zf<|zh (x:=.bool _) Z ?_
         exact ⟨congrArg AV.bool (by unfold ed;rw[if_neg n18,if_neg n19,if_neg n20,if_neg n21,if_neg n22,if_neg n23,hv0];simp[h0]),rfl⟩
        ·have h0:¬0≤vi s.ints v0:=by simpa using cz
         refine z6 Z Z cz<|z6 Z Z cz<|al Z cz Z<|ad Z<|z7<|zf<|zh (x:=.bool _) Z ?_
         exact ⟨congrArg AV.bool (by unfold ed;rw[if_neg n18,if_neg n19,if_neg n20,if_neg n21,if_neg n22,if_neg n23,hv0];simp[h0]),rfl⟩
end Go.Proofs.YtjpnhkmfhlnpcaaGreatDoor
