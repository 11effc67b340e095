/- What is one's own put behind another thing of one's own, be it empty. No conditions but bounds. -/
import Derived.Test.YtbbonnfjealmpaaGreatDoorZXi
import Derived.Test.YtbbonnfjealmpaaGreatDoorZXj
import Derived.Test.YtbbonnfjealmpaaGreatDoorZXb
import Derived.Test.YtbbonnfjealmpaaGreatDoorZXk
set_option linter.unusedVariables false
set_option linter.unusedSimpArgs false
set_option linter.unusedSectionVars false
namespace Go.Proofs.YtbbonnfjealmpaaGreatDoor
section
open Go.Proofs.Tryz
open Go.Proofs Go.Lib Go.Shelf Go.RowKit
variable {E:World}
set_option maxRecDepth 20000
def kw (ids:List Nat) (rs:List (List Int)):List AV:=List.zipWith (fun i r=>AV.j i r.length) ids rs
def LD (i:Nat) (r:List Int):Nat × bC:=(i,.u 1 2 (cI r))
def vh (ids:List Nat) (rs:List (List Int)):OL:=List.zipWith LD ids rs
theorem kx {ids:List Nat} {rs:List (List Int)} (h:ids.length=rs.length):(kw ids rs).length=rs.length:=by unfold kw;simp[h]
theorem jV:∀{ids:List Nat} {rs:List (List Int)} {j i:Nat} {r:List Int},ids[j]?=some i→rs[j]?=some r→(kw ids rs).drop j=.j i r.length::(kw ids rs).drop (j+1)
 |[],_,_,_,_,h,_=>by simp at h
 |_::_,[],_,_,_,_,h=>by simp at h
 |i::ids,r::rs,0,_,_,h1,h2=>by
  simp at h1 h2;subst h1 h2;rfl
 |_::ids,_::rs,j+1,i,r,h1,h2=>jV (ids:=ids) (rs:=rs) (by simpa using h1) (by simpa using h2)
theorem vj {ids:List Nat} {rs:List (List Int)} (h:ids.length=rs.length) {j:Nat} (hj:j<rs.length):∃i,ids[j]?=some i:=⟨_,qt (by omega)⟩
theorem vW {l:List Int} {k:Nat} (h:k<l.length):l[k]?=some ((l[k]?).getD 0):=by
 rw[qt h];rfl
abbrev LE (f:ab) (ja jb jc jo jt:Nat) (s:GS):List AV:=bH f++[.j ja f.v.length,.j jb f.v.length,.j jc f.v.length,.j jo s.y.length,.i s.blk,.i s.pc,.i s.en,.i s.val,.i s.tr,.j jt s.trace.length,.i s.st,.i (s.ck 0),.i (s.ck 1),.i (s.ck 2),.i (s.ck 3),.i (s.ck 4),.i (s.ck 5),.i (s.ck 6),.i (s.ck 7),.bool s.ended]
abbrev wR (ja jb jc jo jt:Nat) (ids:List Nat) (s:GS):OL:=[(ja,.u 1 2 (cI s.ints)),(jb,.u 1 4 (cB s.bools)),(jc,.u 1 3 (cI s.arrs)),(jo,.u 1 66 (kw ids s.y)),(jt,.u 1 2 (cI s.trace)),(0,Lx (vh ids s.y))]
abbrev wO (f:ab) (iw ja jb jc jo jt:Nat) (ids:List Nat) (s:GS):OL:=(iw,.cells 99 (LE f ja jb jc jo jt s))::wR ja jb jc jo jt ids s
theorem fx (f:ab) (iw ja jb jc jo jt:Nat) (ids:List Nat) (s:GS) (e:Int):aX prog E 64 [.po iw 0,.i e] (wO f iw ja jb jc jo jt ids s) (fun y O=>y=.tup []∧O=wO f iw ja jb jc jo jt ids (d7 s e)):=by
 refine zm func64 U (by decide) U<|bZ<|bf U<|bf U<|C U<|aC U<|X (ze je U Yd (by decide) U U)<|X (ze Zl U sizeOf93 (by decide) U U)<|yh (l:=[_]) (new:=[_,_,_,_,_,_,_,_,_,_,_,_,_,_,_,_,_,_,_,_,_,_,_]) sizeOf93 U U U U U U .head U U<|aC U<|X (ze je U Zc (by decide) U U)<|yh (l:=[_]) (new:=[_,_,_,_,_,_,_,_,_,_,_,_,_,_,_,_,_,_,_,_,_,_,_]) Zc U U U U U U .head U U<|Y<|yu ?_;exact ⟨rfl,rfl⟩
theorem nt (f:ab) (iw ja jb jc jo jt:Nat) (ids:List Nat) (s:GS) (a i:Int) (hids:ids.length=s.y.length):aX prog E 98 [.po iw 0,.i a,.i i] (wO f iw ja jb jc jo jt ids s) (fun y O=>y=.bool (dK s a i)∧O=wO f iw ja jb jc jo jt ids s):=by
 refine zm func98 U (by decide) U<|Z<|ah U<|Y<|Z<|C U<|X (q7 U U)<|aw U<|zo (s:=9) U (fun c1=>?_) (fun c1=>?_)
 ·have h1:0≤a:=by simpa using c1
  refine M U U c1<|C U<|M U U c1<|bf U<|M U U c1<|aC U<|M U U c1<|X (ze je U Yj (by decide) U U)<|M U U c1<|X (zj (c:=.j _ _) X3 U ⟨_,.head⟩ U)<|M U U c1<|X (qm Zn U)<|M U U c1<|aq U U<|aA U c1 U<|aw U<|zo (s:=18) U (fun c2=>?_) (fun c2=>?_)
  ·have h2:a<s.y.length:=by simpa using c2
   refine M U U c2<|C U<|M U U c2<|X (q7 U U)<|aA U c2 U<|aw U<|zo (s:=22) U (fun c3=>?_) (fun c3=>?_)
   ·have h3:0≤i:=by simpa using c3
    obtain ⟨q,hq⟩:=vj hids (j:=a.toNat) (by omega);refine M U U c3<|C U<|M U U c3<|bf U<|M U U c3<|aC U<|M U U c3<|X (ze je U Yj (by decide) U U)<|M U U c3<|X (zj (c:=.j _ _) X3 U ⟨_,.head⟩ U)<|M U U c3<|C U<|M U U c3<|X (y7 (j:=a.toNat) Zn Zx U U (by omega) ⟨_,.t4⟩ (kx hids) (by omega))<|M U U c3<|X (qq (c:=_) Yh U ⟨_,.t4⟩ (jV hq (jI h1 h2)))<|M U U c3<|X (qm Z5 U)<|M U U c3<|aq U U<|aA U c3 U<|ah U<|Y<|zf ?_
    repeat (first|refine ad ?_|refine aa ?_)
    refine bt U ?_;exact ⟨congrArg AV.bool (by unfold dK;simp[h1,h2,h3]),rfl⟩
   have h3:¬0≤i:=by simpa using c3
   refine H U U c3<|H U U c3<|H U U c3<|H U U c3<|H U U c3<|H U U c3<|H U U c3<|H U U c3<|H U U c3<|H U U c3<|ay U c3 U<|ah U<|Y<|zf ?_
   repeat (first|refine ad ?_|refine aa ?_)
   refine bt U ?_;exact ⟨congrArg AV.bool (by unfold dK;simp[h1,h2,h3]),rfl⟩
  have h2:¬a<s.y.length:=by simpa using c2
  refine H U U c2<|H U U c2<|ay U c2 U<|aw U<|H U U U<|H U U U<|H U U U<|H U U U<|H U U U<|H U U U<|H U U U<|H U U U<|H U U U<|H U U U<|ay U U U<|ah U<|Y<|zf ?_
  repeat (first|refine ad ?_|refine aa ?_)
  refine bt U ?_;exact ⟨congrArg AV.bool (by unfold dK;simp[h1,h2]),rfl⟩
 have h1:¬0≤a:=by simpa using c1
 refine H U U c1<|H U U c1<|H U U c1<|H U U c1<|H U U c1<|H U U c1<|H U U c1<|ay U c1 U<|aw U<|H U U U<|H U U U<|ay U U U<|aw U<|H U U U<|H U U U<|H U U U<|H U U U<|H U U U<|H U U U<|H U U U<|H U U U<|H U U U<|H U U U<|ay U U U<|ah U<|Y<|zf ?_
 repeat (first|refine ad ?_|refine aa ?_)
 refine bt U ?_;exact ⟨congrArg AV.bool (by unfold dK;simp[h1]),rfl⟩
theorem GJ:∀j:Nat,j<27→∀k:Nat,k<27→decide ((cF (j:Int)).1=(cF (k:Int)).1)=decide (j=k):=by decide
theorem bb {op:Int} (h:0≤op∧op≤26) (k:Nat) (hk:k<27) {b:ByteArray} (hb:(cF (k:Int)).1=b):((cF op).1=b)↔op=(k:Int):=by
 subst hb;obtain ⟨j,rfl⟩:∃j:Nat,op=(j:Int):=⟨op.toNat,by omega⟩;have:=GJ j (by omega) k hk;rw[decide_eq_decide] at this;rw[this];omega
def DG (f:ab) (op:Int) (l:List Int):Prop:=18≤op∧op≤24∧0<l.length∧∀v∈l,v<f.v.length∧0≤v
theorem EW {f:ab} {op:Int} {l:List Int} (h:DG f op l) {k:Nat} (hk:k<l.length):(l[k]?).getD 0<f.v.length∧0≤(l[k]?).getD 0:=by
 rw[qt hk];exact h.2.2.2 _ (qx hk)
theorem yQ (f:ab) (iw ja jb jc jo jt:Nat) (ids:List Nat) (s:GS) (op:Int) (l:List Int) (hids:ids.length=s.y.length) (hg:bE f s) (ho:DG f op l):aX prog E 95 [.po iw 0,.str (cF op).1,.fro 1 (l.map b7)] (wO f iw ja jb jc jo jt ids s) (fun y O=>y=.bool (fU s op l)∧O=wO f iw ja jb jc jo jt ids s):=by
 have hop:0≤op∧op≤26:=by have:=ho.1;have:=ho.2.1;omega
 obtain ⟨q0,r0⟩:=EW ho ho.2.2.1;obtain ⟨v0,hv0⟩:∃v,(l[0]?).getD 0=v:=⟨_,rfl⟩;rw[hv0] at q0 r0;have hl1:=hg.li;have hl3:=hg.la;have ha64:aY (vi s.ints v0):=n6 hg.i64;refine zm func95 U (by decide) U<|Z<|ah U<|Y<|za<|zn (fun j=>false) (by kernel_rfl) U (zk (.r (.r (.rest _))))<|D 0 U (dZ U)<|D 1 U (zr U)<|D 2 U (ze je U Zx (by decide) U U)<|D 3 U (zj (c:=.j _ _) Yh U ⟨_,.head⟩ U)<|D 4 U (zJ U)<|D 5 U (bD 0 j7 j9 U U U ((vW ho.2.2.1).trans (by rw[hv0]))) ?_;refine D 6 U (d9 jg U)<|D 7 U (y7 (j:=v0.toNat) Z5 Z0 U U (by omega) ⟨_,.t1⟩ ((aH _).trans hl1) (by omega))<|D 8 U (yp (j:=v0.toNat) Zb U ⟨_,.t1⟩ (gz (by omega) r0))<|D 9 U (DS U)<|dS<|Z<|ap U<|Y<|za<|Z<|bj U<|am j7 U<|bg U U<|Y<|y3 (γ:=Int) [0,1,2,7] (fun u=>[(8,.i u)]) (fun u=>wO f iw ja jb jc jo jt ids s) (fun u=>u=yZ l s.ints) ?_ (fun _ _ h=>h) ?_
 ·refine zh U (fun c=>?_) (fun c=>?_)
  ·have c:1<l.length:=by omega
   obtain ⟨q1,r1⟩:=EW ho c;obtain ⟨v1,hv1⟩:∃v,(l[1]?).getD 0=v:=⟨_,rfl⟩;rw[hv1] at q1 r1;refine zn (fun j=>false) (by kernel_rfl) U (zk (.r (.r (.rest _))))<|D 0 U (dZ U)<|D 1 U (zr U)<|D 2 U (ze je U Zx (by decide) U U)<|D 3 U (zj (c:=.j _ _) Yh U ⟨_,.head⟩ U)<|D 4 U (zJ U)<|D 5 U (bD 1 j7 j9 U U U ((vW c).trans (by rw[hv1]))) ?_;refine D 6 U (d9 jg U)<|D 7 U (y7 (j:=v1.toNat) Z5 Z0 U U (by omega) ⟨_,.t1⟩ ((aH _).trans hl1) (by omega))<|D 8 U (yp (j:=v1.toNat) Zb U ⟨_,.t1⟩ (gz (by omega) r1))<|D 9 U (DS U)<|dS ?_;exact ⟨_,f7,aN,aJ,by unfold yZ;rw[if_pos c,hv1]⟩
  have c:¬1<l.length:=by omega
  refine zc ?_;exact ⟨_,f7,aN,aJ,by unfold yZ;rw[if_neg c]⟩
 rintro u hu;have hb64:aY u:=by
  rw[hu];unfold yZ;split
  ·exact n6 hg.i64
  exact ⟨by decide,by decide⟩
 refine za<|Z<|X (yn (v:=.str _) U)<|Y<|zd<|Z<|X (q6 U U)<|ah U<|Y<|zh U (fun c18=>?_) (fun c18=>?_)
 ·have e:op=18:=(bb hop 18 (by decide) rfl).1 c18;refine za<|zn (fun j=>false) (by kernel_rfl) U (zk (.rest _))<|D 0 U (dZ U)<|D 1 U (dZ U)<|D 2 U (zr U)<|D 3 U (ze je U jh (by decide) U U)<|D 5 U (zJ U)<|D 6 U (bD 0 j7 j9 U U U ((vW ho.2.2.1).trans (by rw[hv0]))) ?_;refine D 7 U (d9 jg U)<|D 10 U (dC U)<|bp 4 U<|X (zj (c:=.j _ _) jy U ⟨_,.head⟩ U)<|Y<|bp 8 U<|X (y7 (j:=v0.toNat) j7 j9 U U (by omega) ⟨_,.t3⟩ ((aH _).trans hl3) (by omega))<|Y<|bp 9 U<|X (yp (j:=v0.toNat) jg U ⟨_,.t3⟩ (gz (by omega) r0))<|Y<|bp 11 U<|zy U (zk (.l (.l (.l (.l (.l (.l (.l (.rest _))))))))) (nt f iw ja jb jc jo jt ids s (vi s.arrs v0) u hids) ?_;rintro r44 O44 ⟨rfl,rfl⟩;refine Y<|D 12 U (sx U)<|dS<|zf ?_
  repeat (first|refine ad ?_|refine aa ?_)
  refine bt U ?_;exact ⟨by unfold fU;rw[if_pos e,hv0,hu],rfl⟩
 have n18:¬op=18:=fun e=>c18 ((bb hop 18 (by decide) rfl).2 e);refine Z<|X (q6 U U)<|ah U<|Y<|zh U (fun c19=>?_) (fun c19=>?_)
 ·have e:op=19:=(bb hop 19 (by decide) rfl).1 c19;refine za<|zn (fun j=>false) (by kernel_rfl) U (zk (.r (.l (.l (.r (.rest _))))))<|D 0 U (dZ U)<|D 1 U (zr U)<|D 2 U (ze je U jh (by decide) U U)<|D 3 U (zj (c:=.j _ _) jy U ⟨_,.head⟩ U)<|D 4 U (zJ U)<|D 5 U (bD 0 j7 j9 U U U ((vW ho.2.2.1).trans (by rw[hv0]))) ?_;refine D 6 U (d9 jg U)<|D 7 U (y7 (j:=v0.toNat) j7 j9 U U (by omega) ⟨_,.t1⟩ ((aH _).trans hl3) (by omega))<|D 8 U (yp (j:=v0.toNat) jg U ⟨_,.t1⟩ (gz (by omega) r0))<|D 9 U (q7 U U)<|D 10 U (sx U)<|dS<|gd .t3<|gd .t3<|gd .t2<|zf ?_
  repeat (first|refine ad ?_|refine aa ?_)
  refine bt U ?_;exact ⟨by unfold fU;rw[if_neg n18,if_pos e,hv0],rfl⟩
 have n19:¬op=19:=fun e=>c19 ((bb hop 19 (by decide) rfl).2 e);refine Z<|X (q6 U U)<|ah U<|Y<|zh U (fun c20=>?_) (fun c20=>?_)
 ·have e:op=20:=(bb hop 20 (by decide) rfl).1 c20;refine Z<|C U<|aT U U<|ah U<|Y<|zf ?_
  repeat (first|refine ad ?_|refine aa ?_)
  refine bt U ?_;exact ⟨by unfold fU;rw[if_neg n18,if_neg n19,if_pos e,hv0];simp,rfl⟩
 have n20:¬op=20:=fun e=>c20 ((bb hop 20 (by decide) rfl).2 e);refine Z<|X (q6 U U)<|ah U<|Y<|zh U (fun c21=>?_) (fun c21=>?_)
 ·have e:op=21:=(bb hop 21 (by decide) rfl).1 c21;refine Z<|C U<|C U<|zb (CF (k:=0) (by decide) ha64 hb64) U<|ah U<|Y<|zf ?_
  repeat (first|refine ad ?_|refine aa ?_)
  refine bt U ?_;exact ⟨by unfold fU;rw[if_neg n18,if_neg n19,if_neg n20,if_pos e,hv0,hu],rfl⟩
 have n21:¬op=21:=fun e=>c21 ((bb hop 21 (by decide) rfl).2 e);refine Z<|X (q6 U U)<|ah U<|Y<|zh U (fun c22=>?_) (fun c22=>?_)
 ·have e:op=22:=(bb hop 22 (by decide) rfl).1 c22;refine Z<|C U<|C U<|zb (CF (k:=1) (by decide) ha64 hb64) U<|ah U<|Y<|zf ?_
  repeat (first|refine ad ?_|refine aa ?_)
  refine bt U ?_;exact ⟨by unfold fU;rw[if_neg n18,if_neg n19,if_neg n20,if_neg n21,if_pos e,hv0,hu],rfl⟩
 have n22:¬op=22:=fun e=>c22 ((bb hop 22 (by decide) rfl).2 e);refine Z<|X (q6 U U)<|ah U<|Y<|zh U (fun c23=>?_) (fun c23=>?_)
 ·have e:op=23:=(bb hop 23 (by decide) rfl).1 c23;refine Z<|C U<|C U<|zb (CF (k:=2) (by decide) ha64 hb64) U<|ah U<|Y<|zf ?_
  repeat (first|refine ad ?_|refine aa ?_)
  refine bt U ?_;exact ⟨by unfold fU;rw[if_neg n18,if_neg n19,if_neg n20,if_neg n21,if_neg n22,if_pos e,hv0,hu],rfl⟩
 have n23:¬op=23:=fun e=>c23 ((bb hop 23 (by decide) rfl).2 e);refine zc<|Z<|C U<|X (q7 U U)<|aw U<|zo (s:=78) U (fun cz=>?_) (fun cz=>?_)
 ·have h0:0≤vi s.ints v0:=by simpa using cz
  refine M U U cz<|C U<|M U U cz<|X (Gv.leq U U)<|aA U cz U<|ah U<|Y<|zf ?_
  repeat (first|refine ad ?_|refine aa ?_)
  refine bt U ?_;exact ⟨congrArg AV.bool (by unfold fU;rw[if_neg n18,if_neg n19,if_neg n20,if_neg n21,if_neg n22,if_neg n23,hv0];simp[h0]),rfl⟩
 have h0:¬0≤vi s.ints v0:=by simpa using cz
 refine H U U cz<|H U U cz<|ay U cz U<|ah U<|Y<|zf ?_
 repeat (first|refine ad ?_|refine aa ?_)
 refine bt U ?_;exact ⟨congrArg AV.bool (by unfold fU;rw[if_neg n18,if_neg n19,if_neg n20,if_neg n21,if_neg n22,if_neg n23,hv0];simp[h0]),rfl⟩
end
section
open Go.Proofs.Tryz
open Go.Proofs Go.Lib Go.Shelf Go.RowKit
theorem JP:dp prog 28 66 1 1 [.n]:=⟨_,Zn,Zx,zeroValue66,by decide,by decide,by kernel_rfl⟩
theorem NB:dp prog 66 2 1 1 [.int .i64 0]:=⟨_,Z5,Z0,zeroValue2,by decide,by decide,by kernel_rfl⟩
variable {E:World}
set_option maxRecDepth 20000
theorem dA {s:GS} {x:aB} (h:¬(18≤x.op∧x.op≤24)):bc s x=doG s x:=by unfold bc;rw[if_neg h]
theorem nu {l:List Bool} {v:Int} (h1:v<l.length) (_:0≤v):l[v.toNat]?=some (gb l v):=by
 unfold gb;rw[qt (by omega)];rfl
theorem JQ {α:Type}:∀{l:List α} {j:Nat} {a:α},l[j]?=some a→l.set j a=l
 |[],_,_,h=>by simp at h
 |_::_,0,_,h=>by simp at h;subst h;rfl
 |_::l,j+1,a,h=>by rw[List.set_cons_succ,JQ (l:=l) (by simpa using h)]
theorem Cc:∀{ids:List Nat} {rs:List (List Int)} {j:Nat} {r r':List Int},rs[j]?=some r→r'.length=r.length→kw ids (rs.set j r')=kw ids rs
 |[],_,_,_,_,_,_=>rfl
 |_::_,[],_,_,_,h,_=>by simp at h
 |i::ids,r0::rs,0,r,r',h,hl=>by
  simp at h;subst h;show AV.j i r'.length::_=AV.j i r0.length::_;rw[hl]
 |i::ids,r0::rs,j+1,r,r',h,hl=>by
  show AV.j i r0.length::kw ids (rs.set j r')=AV.j i r0.length::kw ids rs;rw[Cc (by simpa using h) hl]
theorem xk {ids:List Nat} {rs:List (List Int)} (i:Nat) (r:List Int) (h:ids.length=rs.length):kw ids rs++[AV.j i r.length]=kw (ids++[i]) (rs++[r]):=by
 unfold kw;rw[List.zipWith_append h];rfl
theorem Cd {ids:List Nat} {rs:List (List Int)} (i:Nat) (r:List Int) (h:ids.length=rs.length):(LD i r::vh ids rs).Perm (vh (ids++[i]) (rs++[r])):=by
 unfold vh;rw[List.zipWith_append h];exact List.perm_append_comm (l₁:=[_])
theorem NC (f:ab) (iw ja jb jc jo jt:Nat) {ids:List Nat} {s:GS} (h:ids.length=s.y.length) (i m:Nat) (d v:Int) (hv:v=s.y.length):(iw,bC.cells 99 (bH f++[.j ja f.v.length,.j jb f.v.length,.j jc f.v.length,.j jo (s.y.length+1),.i s.blk,.i s.pc,.i s.en,.i s.val,.i s.tr,.j jt s.trace.length,.i s.st,.i (s.ck 0),.i (s.ck 1),.i (s.ck 2),.i (s.ck 3),.i (s.ck 4),.i (s.ck 5),.i (s.ck 6),.i (s.ck 7),.bool s.ended]))::(ja,.u 1 2 (cI s.ints))::(jb,.u 1 4 (cB s.bools))::(jc,.u 1 3 (cI (s.arrs.set d.toNat v)))::(jo,.u 1 66 (kw ids s.y++[.j i m]))::(jt,.u 1 2 (cI s.trace))::[(0,Lx (vh (ids++[i]) (s.y++[List.replicate m 0])))]=wO f iw ja jb jc jo jt (ids++[i]) (stA { s with y:=s.y++[List.replicate m 0] } d s.y.length):=by
 subst hv;unfold wO wR LE stA;rw[←xk i (List.replicate m 0) h];simp only[qz,List.length_singleton,List.length_replicate]
theorem ND (f:ab) (iw ja jb jc jo jt:Nat) {ids:List Nat} {s:GS} (a:Int):(iw,bC.cells 99 (bH f++[.j ja f.v.length,.j jb f.v.length,.j jc f.v.length,.j jo s.y.length,.i s.blk,.i s.pc,.i s.en,.i s.val,.i s.tr,.j jt (s.trace.length+1),.i s.st,.i (s.ck 0),.i (s.ck 1),.i (s.ck 2),.i (s.ck 3),.i (s.ck 4),.i (s.ck 5),.i (s.ck 6),.i (s.ck 7),.bool s.ended]))::(ja,.u 1 2 (cI s.ints))::(jb,.u 1 4 (cB s.bools))::(jc,.u 1 3 (cI s.arrs))::(jo,.u 1 66 (kw ids s.y))::(jt,.u 1 2 (cI s.trace++[.i a]))::[(0,Lx (vh ids s.y))]=wO f iw ja jb jc jo jt ids { s with trace:=s.trace++[a] }:=by
 unfold wO wR LE;rw[show cI s.trace++[AV.int .i64 a]=cI (s.trace++[a]) from lO s.trace [a]];simp only[qz,List.length_singleton]
set_option maxHeartbeats 16000000 in
theorem DH (f:ab) (iw ja jb jc jo jt:Nat) (ids:List Nat) (s:GS) (x:aB) (hids:ids.length=s.y.length) (hg:bE f s) (hx:dT f x) (hv:f.v.length≤1000) (hck:∀i,s.ck i≤1000000000):aX prog E 63 [.po iw 0,.agg (bu x)] (wO f iw ja jb jc jo jt ids s) (fun y O=>∃jo' jt' ids',ids'.length=(bc s x).y.length∧y=.tup []∧O=wO f iw ja jb jc jo' jt' ids' (bc s x)):=by
 have hop:=hx.op;have hl1:=hg.li;have hl2:=hg.lb;have hl3:=hg.la;have hargc:=hx.argc;obtain ⟨t,ht⟩:∃t,(if 18≤x.op∧x.op≤24 then x.op - 17 else 0)=t:=⟨_,rfl⟩;have hchk:=BW (E:=E) x.op hop;rw[ht] at hchk;refine zm func63 U (by decide) U<|Z<|zx (cs:=_) U U U<|Y<|za<|zn (fun j=>false) (by kernel_rfl) U (zk (.rest _))<|D 1 U (dk jd U Zu U U)<|D 2 U (d9 Y2 U)<|bp 0 U<|zb (lm) U<|Y<|D 3 U (bD x.op.toNat Xc Yz U U (by omega) (ud hop))<|D 4 U (dk Y8 U Y7 U U)<|D 5 U (q8 (c:=.str _) Ym U)<|D 6 U (q9 (v:=.str _) U)<|dS<|za<|Z<|ao jd U Zu U U<|aD Y2 U<|zb (hchk) U<|ap U<|Y<|Z<|C U<|bg U U<|Y<|zh U (fun c=>?_) (fun c=>?_)
 ·have hc:18≤x.op∧x.op≤24:=by
   refine Classical.byContradiction fun hn=>?_;rw[if_neg hn] at ht;omega
  rw[if_pos hc] at ht;refine za<|y3 (γ:=Nat) [0,3,4,5] (fun g=>[]) (fun g=>wO f iw ja jb jc jo jt ids (n4 s g)) (fun g=>(g:Int)=t) ?_ (fun _ _ h=>h) ?_
  ·have ht7:t=1∨t=2∨t=3∨t=4∨t=5∨t=6∨t=7:=by omega
   rcases ht7 with h7|h7|h7|h7|h7|h7|h7
   ·have hb:=hck 1;refine zn (fun j=>Nat.beq j 12) (by kernel_rfl) U (zk (.rest _))<|D 0 U (dZ U)<|D 1 U (dC U)<|D 2 U (zr U)<|D 3 U (ze je U Yd (by decide) U U)<|D 4 U (ze Zl U X4 (by decide) U U)<|D 5 U (qa (j:=1) Yb j9 U U h7 (by decide) U)<|yo (i:=8) U (by kernel_rfl) (by kernel_rfl) (by kernel_rfl) (by kernel_rfl) (zr U)<|yo (i:=9) U (by kernel_rfl) (by kernel_rfl) (by kernel_rfl) (by kernel_rfl) (ze je U Yd (by decide) U U)<|yo (i:=10) U (by kernel_rfl) (by kernel_rfl) (by kernel_rfl) (by kernel_rfl) (ze Zl U X4 (by decide) U U)<|bp 6 U<|X (zj (c:=.int _ _) jg U ⟨_,.head⟩ U)<|Y<|D 7 U (ky U U)<|D 11 U (qa (j:=1) Yb j9 U U h7 (by decide) U)<|y4<|yg (i:=12) U (by kernel_rfl) (by kernel_rfl)<|yh (l:=[_]) (new:=[_,_,_,_,_,_,_,_,_,_,_,_,_,_,_,_,_,_,_,_,_,_,_]) j9 U U U U U U .head U U<|Y<|y8 (by kernel_rfl) ?_;exact ⟨1,f7,trivial,aJ,by rw[h7];rfl⟩
   ·have hb:=hck 2;refine zn (fun j=>Nat.beq j 12) (by kernel_rfl) U (zk (.rest _))<|D 0 U (dZ U)<|D 1 U (dC U)<|D 2 U (zr U)<|D 3 U (ze je U Yd (by decide) U U)<|D 4 U (ze Zl U X4 (by decide) U U)<|D 5 U (qa (j:=2) Yb j9 U U h7 (by decide) U)<|yo (i:=8) U (by kernel_rfl) (by kernel_rfl) (by kernel_rfl) (by kernel_rfl) (zr U)<|yo (i:=9) U (by kernel_rfl) (by kernel_rfl) (by kernel_rfl) (by kernel_rfl) (ze je U Yd (by decide) U U)<|yo (i:=10) U (by kernel_rfl) (by kernel_rfl) (by kernel_rfl) (by kernel_rfl) (ze Zl U X4 (by decide) U U)<|bp 6 U<|X (zj (c:=.int _ _) jg U ⟨_,.head⟩ U)<|Y<|D 7 U (ky U U)<|D 11 U (qa (j:=2) Yb j9 U U h7 (by decide) U)<|y4<|yg (i:=12) U (by kernel_rfl) (by kernel_rfl)<|yh (l:=[_]) (new:=[_,_,_,_,_,_,_,_,_,_,_,_,_,_,_,_,_,_,_,_,_,_,_]) j9 U U U U U U .head U U<|Y<|y8 (by kernel_rfl) ?_;exact ⟨2,f7,trivial,aJ,by rw[h7];rfl⟩
   ·have hb:=hck 3;refine zn (fun j=>Nat.beq j 12) (by kernel_rfl) U (zk (.rest _))<|D 0 U (dZ U)<|D 1 U (dC U)<|D 2 U (zr U)<|D 3 U (ze je U Yd (by decide) U U)<|D 4 U (ze Zl U X4 (by decide) U U)<|D 5 U (qa (j:=3) Yb j9 U U h7 (by decide) U)<|yo (i:=8) U (by kernel_rfl) (by kernel_rfl) (by kernel_rfl) (by kernel_rfl) (zr U)<|yo (i:=9) U (by kernel_rfl) (by kernel_rfl) (by kernel_rfl) (by kernel_rfl) (ze je U Yd (by decide) U U)<|yo (i:=10) U (by kernel_rfl) (by kernel_rfl) (by kernel_rfl) (by kernel_rfl) (ze Zl U X4 (by decide) U U)<|bp 6 U<|X (zj (c:=.int _ _) jg U ⟨_,.head⟩ U)<|Y<|D 7 U (ky U U)<|D 11 U (qa (j:=3) Yb j9 U U h7 (by decide) U)<|y4<|yg (i:=12) U (by kernel_rfl) (by kernel_rfl)<|yh (l:=[_]) (new:=[_,_,_,_,_,_,_,_,_,_,_,_,_,_,_,_,_,_,_,_,_,_,_]) j9 U U U U U U .head U U<|Y<|y8 (by kernel_rfl) ?_;exact ⟨3,f7,trivial,aJ,by rw[h7];rfl⟩
   ·have hb:=hck 4;refine zn (fun j=>Nat.beq j 12) (by kernel_rfl) U (zk (.rest _))<|D 0 U (dZ U)<|D 1 U (dC U)<|D 2 U (zr U)<|D 3 U (ze je U Yd (by decide) U U)<|D 4 U (ze Zl U X4 (by decide) U U)<|D 5 U (qa (j:=4) Yb j9 U U h7 (by decide) U)<|yo (i:=8) U (by kernel_rfl) (by kernel_rfl) (by kernel_rfl) (by kernel_rfl) (zr U)<|yo (i:=9) U (by kernel_rfl) (by kernel_rfl) (by kernel_rfl) (by kernel_rfl) (ze je U Yd (by decide) U U)<|yo (i:=10) U (by kernel_rfl) (by kernel_rfl) (by kernel_rfl) (by kernel_rfl) (ze Zl U X4 (by decide) U U)<|bp 6 U<|X (zj (c:=.int _ _) jg U ⟨_,.head⟩ U)<|Y<|D 7 U (ky U U)<|D 11 U (qa (j:=4) Yb j9 U U h7 (by decide) U)<|y4<|yg (i:=12) U (by kernel_rfl) (by kernel_rfl)<|yh (l:=[_]) (new:=[_,_,_,_,_,_,_,_,_,_,_,_,_,_,_,_,_,_,_,_,_,_,_]) j9 U U U U U U .head U U<|Y<|y8 (by kernel_rfl) ?_;exact ⟨4,f7,trivial,aJ,by rw[h7];rfl⟩
   ·have hb:=hck 5;refine zn (fun j=>Nat.beq j 12) (by kernel_rfl) U (zk (.rest _))<|D 0 U (dZ U)<|D 1 U (dC U)<|D 2 U (zr U)<|D 3 U (ze je U Yd (by decide) U U)<|D 4 U (ze Zl U X4 (by decide) U U)<|D 5 U (qa (j:=5) Yb j9 U U h7 (by decide) U)<|yo (i:=8) U (by kernel_rfl) (by kernel_rfl) (by kernel_rfl) (by kernel_rfl) (zr U)<|yo (i:=9) U (by kernel_rfl) (by kernel_rfl) (by kernel_rfl) (by kernel_rfl) (ze je U Yd (by decide) U U)<|yo (i:=10) U (by kernel_rfl) (by kernel_rfl) (by kernel_rfl) (by kernel_rfl) (ze Zl U X4 (by decide) U U)<|bp 6 U<|X (zj (c:=.int _ _) jg U ⟨_,.head⟩ U)<|Y<|D 7 U (ky U U)<|D 11 U (qa (j:=5) Yb j9 U U h7 (by decide) U)<|y4<|yg (i:=12) U (by kernel_rfl) (by kernel_rfl)<|yh (l:=[_]) (new:=[_,_,_,_,_,_,_,_,_,_,_,_,_,_,_,_,_,_,_,_,_,_,_]) j9 U U U U U U .head U U<|Y<|y8 (by kernel_rfl) ?_;exact ⟨5,f7,trivial,aJ,by rw[h7];rfl⟩
   ·have hb:=hck 6;refine zn (fun j=>Nat.beq j 12) (by kernel_rfl) U (zk (.rest _))<|D 0 U (dZ U)<|D 1 U (dC U)<|D 2 U (zr U)<|D 3 U (ze je U Yd (by decide) U U)<|D 4 U (ze Zl U X4 (by decide) U U)<|D 5 U (qa (j:=6) Yb j9 U U h7 (by decide) U)<|yo (i:=8) U (by kernel_rfl) (by kernel_rfl) (by kernel_rfl) (by kernel_rfl) (zr U)<|yo (i:=9) U (by kernel_rfl) (by kernel_rfl) (by kernel_rfl) (by kernel_rfl) (ze je U Yd (by decide) U U)<|yo (i:=10) U (by kernel_rfl) (by kernel_rfl) (by kernel_rfl) (by kernel_rfl) (ze Zl U X4 (by decide) U U)<|bp 6 U<|X (zj (c:=.int _ _) jg U ⟨_,.head⟩ U)<|Y<|D 7 U (ky U U)<|D 11 U (qa (j:=6) Yb j9 U U h7 (by decide) U)<|y4<|yg (i:=12) U (by kernel_rfl) (by kernel_rfl)<|yh (l:=[_]) (new:=[_,_,_,_,_,_,_,_,_,_,_,_,_,_,_,_,_,_,_,_,_,_,_]) j9 U U U U U U .head U U<|Y<|y8 (by kernel_rfl) ?_;exact ⟨6,f7,trivial,aJ,by rw[h7];rfl⟩
   have hb:=hck 7;refine zn (fun j=>Nat.beq j 12) (by kernel_rfl) U (zk (.rest _))<|D 0 U (dZ U)<|D 1 U (dC U)<|D 2 U (zr U)<|D 3 U (ze je U Yd (by decide) U U)<|D 4 U (ze Zl U X4 (by decide) U U)<|D 5 U (qa (j:=7) Yb j9 U U h7 (by decide) U)<|yo (i:=8) U (by kernel_rfl) (by kernel_rfl) (by kernel_rfl) (by kernel_rfl) (zr U)<|yo (i:=9) U (by kernel_rfl) (by kernel_rfl) (by kernel_rfl) (by kernel_rfl) (ze je U Yd (by decide) U U)<|yo (i:=10) U (by kernel_rfl) (by kernel_rfl) (by kernel_rfl) (by kernel_rfl) (ze Zl U X4 (by decide) U U)<|bp 6 U<|X (zj (c:=.int _ _) jg U ⟨_,.head⟩ U)<|Y<|D 7 U (ky U U)<|D 11 U (qa (j:=7) Yb j9 U U h7 (by decide) U)<|y4<|yg (i:=12) U (by kernel_rfl) (by kernel_rfl)<|yh (l:=[_]) (new:=[_,_,_,_,_,_,_,_,_,_,_,_,_,_,_,_,_,_,_,_,_,_,_]) j9 U U U U U U .head U U<|Y<|y8 (by kernel_rfl) ?_;exact ⟨7,f7,trivial,aJ,by rw[h7];rfl⟩
  rintro g hgt;have hgn:(x.op - 17).toNat=g:=by omega
  have hal:0<x.args.length:=by
   obtain ⟨j,hj⟩:∃j:Nat,x.op=(j:Int):=⟨x.op.toNat,by omega⟩;rw[hargc,hj,Int.toNat_natCast];have:j=18∨j=19∨j=20∨j=21∨j=22∨j=23∨j=24:=by omega
   rcases this with h|h|h|h|h|h|h<;>(rw[h];decide)
  have ho:DG f x.op x.args:=⟨hc.1,hc.2,hal,fun v hv=>bz (hx.args v hv)⟩;refine za<|Z<|bf U<|X (yn (v:=.str _) U)<|ao jd U jh U U<|aK jy U<|zy U (zk (.l (.l (.l (.l (.l (.l (.l (.rest _))))))))) (yQ f iw ja jb jc jo jt ids (n4 s g) x.op x.args hids (hg.bump g) ho) ?_;rintro r42 O42 ⟨rfl,rfl⟩;refine aL U<|Y<|zq U (fun cp=>?_) (fun cp=>?_)
  ·have hp:¬fU s x.op x.args=true:=fun h=>by have h2:fU (n4 s g) x.op x.args=true:=h;rw[h2] at cp;cases cp
   have hI:bc s x=Iy (n4 s g) t:=by unfold bc;rw[if_pos hc,if_neg hp,hgn,ht]
   refine Z<|bf U<|C U<|aC U<|X (ze je U Yd (by decide) U U)<|X (ze Zl U sizeOf94 (by decide) U U)<|yh (l:=[_]) (new:=[_,_,_,_,_,_,_,_,_,_,_,_,_,_,_,_,_,_,_,_,_,_,_]) sizeOf94 U U U U U U .head U U<|Y<|bZ<|bf U<|zy U (zk (.l (.l (.l (.l (.l (.l (.l (.rest _))))))))) (fx f iw ja jb jc jo jt ids { n4 s g with tr:=t } 1) ?_;rintro r50 O50 ⟨rfl,rfl⟩;refine Y<|zf<|yu ?_;exact ⟨jo,jt,ids,by rw[hI];exact hids,rfl,by rw[hI];rfl⟩
  have hp:fU s x.op x.args=true:=by cases h:fU s x.op x.args;have h2:fU (n4 s g) x.op x.args=false:=h;rw[h2] at cp;cases cp;rfl
  have hI:bc s x=n4 s g:=by unfold bc;rw[if_pos hc,if_pos hp,hgn]
  refine zc<|zf<|yu ?_;exact ⟨jo,jt,ids,by rw[hI];exact hids,rfl,by rw[hI];rfl⟩
 have hc:¬(18≤x.op∧x.op≤24):=fun h=>by rw[if_pos h] at ht;omega
 refine zc<|Z<|ao jd U jh U U<|aK jy U<|X (oU U)<|Y<|Z<|ap U<|ap U<|Y<|Z<|ah U<|ah U<|ap U<|Y<|za<|Z<|bj U<|am j7 U<|bg U U<|Y<|y3 (γ:=Int × Bool × Int) [0,3,4,6,8,10] (fun u=>[(7,.i u.1),(9,.bool u.2.1),(11,.i u.2.2)]) (fun u=>wO f iw ja jb jc jo jt ids s) (fun u=>0<x.args.length→u=(aG s x,pG s x,rG s x)) ?_ (fun _ _ h=>h) ?_
 ·refine zh U (fun ca=>?_) (fun ca=>?_)
  ·have ca:0<x.args.length:=by omega
   obtain ⟨q0,r0⟩:=hx.a0 ca
   refine zn (fun j=>false) (by kernel_rfl) U (zk (.r (.r (.r (.r (.rest _))))))<|D 0 U (dZ U)<|D 1 U (zr U)<|D 2 U (ze je U Zx (by decide) U U)<|D 3 U (zj (c:=.j _ _) Yh U ⟨_,.head⟩ U)<|D 4 U (zJ U)<|D 5 U (bD 0 j7 j9 U U U (vW ca))<|D 6 U (d9 jg U)<|D 7 U (y7 (j:=(dH x).toNat) Z5 Z0 U U (we r0).symm ⟨_,.t1⟩ ((aH _).trans hl1) (by omega))<|D 8 U (yp (j:=(dH x).toNat) Zb U ⟨_,.t1⟩ (gz (by omega) r0))<|D 9 U (dZ U)<|D 10 U (zr U)<|D 11 U (ze je U Yi (by decide) U U)<|D 12 U (zj (c:=.j _ _) Yu U ⟨_,.head⟩ U)<|D 13 U (zJ U)<|D 14 U (bD 0 j7 j9 U U U (vW ca))<|D 15 U (d9 jg U)<|D 16 U (y7 (j:=(dH x).toNat) ju Zc U U (we r0).symm ⟨_,.t2⟩ ((aP _).trans hl2) (by omega))<|D 17 U (Gv.loadB (j:=(dH x).toNat) Yn U ⟨_,.t2⟩ (nu (by omega) r0))<|D 18 U (dZ U)<|D 19 U (zr U)<|D 20 U (ze je U jh (by decide) U U)<|D 21 U (zj (c:=.j _ _) jy U ⟨_,.head⟩ U)<|D 22 U (zJ U)<|D 23 U (bD 0 j7 j9 U U U (vW ca))<|D 24 U (d9 jg U)<|D 25 U (y7 (j:=(dH x).toNat) j7 j9 U U (we r0).symm ⟨_,.t3⟩ ((aH _).trans hl3) (by omega))<|D 26 U (yp (j:=(dH x).toNat) jg U ⟨_,.t3⟩ (gz (by omega) r0))<|D 27 U (DS U)<|D 28 U (sx U)<|D 29 U (DS U)<|dS ?_
   exact ⟨(aG s x,pG s x,rG s x),rX,eX,aJ,fun _=>rfl⟩
  refine zc ?_;exact ⟨(0,false,-1),rX,eX,aJ,fun h=>absurd h (by omega)⟩
 rintro ⟨a,p,r⟩ hu;refine za<|Z<|bj U<|am j7 U<|bg U U<|Y<|y3 (γ:=Int × Bool) [0,3,4,6,7,9,11] (fun u=>[(8,.i u.1),(10,.bool u.2)]) (fun u=>wO f iw ja jb jc jo jt ids s) (fun u=>1<x.args.length→u=(bG s x,qG s x)) ?_ (fun _ _ h=>h) ?_
 ·refine zh U (fun ca=>?_) (fun ca=>?_)
  ·have ca:1<x.args.length:=by omega
   obtain ⟨q0,r0⟩:=hx.a1 ca;refine zn (fun j=>false) (by kernel_rfl) U (zk (.r (.r (.r (.rest _)))))<|D 0 U (dZ U)<|D 1 U (zr U)<|D 2 U (ze je U Zx (by decide) U U)<|D 3 U (zj (c:=.j _ _) Yh U ⟨_,.head⟩ U)<|D 4 U (zJ U)<|D 5 U (bD 1 j7 j9 U U U (vW ca))<|D 6 U (d9 jg U)<|D 7 U (y7 (j:=(fw x).toNat) Z5 Z0 U U (we r0).symm ⟨_,.t1⟩ ((aH _).trans hl1) (by omega))<|D 8 U (yp (j:=(fw x).toNat) Zb U ⟨_,.t1⟩ (gz (by omega) r0))<|D 9 U (dZ U)<|D 10 U (zr U)<|D 11 U (ze je U Yi (by decide) U U)<|D 12 U (zj (c:=.j _ _) Yu U ⟨_,.head⟩ U)<|D 13 U (zJ U)<|D 14 U (bD 1 j7 j9 U U U (vW ca))<|D 15 U (d9 jg U)<|D 16 U (y7 (j:=(fw x).toNat) ju Zc U U (we r0).symm ⟨_,.t2⟩ ((aP _).trans hl2) (by omega))<|D 17 U (Gv.loadB (j:=(fw x).toNat) Yn U ⟨_,.t2⟩ (nu (by omega) r0))<|D 18 U (DS U)<|D 19 U (sx U)<|dS ?_;exact ⟨(bG s x,qG s x),lI,cV,aJ,fun _=>rfl⟩
  refine zc ?_;exact ⟨(0,false),lI,cV,aJ,fun h=>absurd h (by omega)⟩
 rintro ⟨b,q⟩ hw;refine Z<|ao jd U j9 U U<|aD jg U<|ap U<|Y<|Z<|X (yn (v:=.str _) U)<|Y<|zd<|Z<|X (q6 U U)<|ah U<|Y<|zh U (fun c0=>?_) (fun c0=>?_)
 ·have e:x.op=0:=(bb hop 0 (by decide) rfl).1 c0;obtain ⟨d1,d0⟩:=hx.made (by rw[e];decide);have hI:bc s x=stI s x.dst x.num:=by rw[dA hc];unfold doG;simp[e]
  refine zn (fun j=>Nat.beq j 8) (by kernel_rfl) U (zk (.r (.rest _)))<|D 0 U (dZ U)<|D 1 U (zr U)<|D 2 U (ze je U Zx (by decide) U U)<|D 3 U (zj (c:=.j _ _) Yh U ⟨_,.head⟩ U)<|D 4 U (dC U)<|D 5 U (dk jd U Z0 U U)<|D 6 U (d9 Zb U)<|bp 7 U<|X (y7 (j:=x.dst.toNat) Z5 Z0 U U (we d0).symm ⟨_,.head⟩ ((aH _).trans hl1) (by omega))<|Y<|y4<|yg (i:=8) U (by kernel_rfl) (by kernel_rfl)<|yw (j:=x.dst.toNat) Z0 U U .t1 (by first|omega|(simp;omega))<|Y<|y8 (by kernel_rfl)<|yu ?_;exact ⟨jo,jt,ids,by rw[hI];exact hids,rfl,by rw[hI];rfl⟩
 have n0:¬x.op=0:=fun e=>c0 ((bb hop 0 (by decide) rfl).2 e);refine za<|Z<|X (q6 U U)<|ah U<|Y<|y3 (γ:=Bool) [0,3,4,6,7,8,9,10,11,12,106] (fun z=>[(117,.bool z)]) (fun z=>wO f iw ja jb jc jo jt ids s) (fun z=>z=decide (x.op=1∨x.op=25∨x.op=26)) ?_ (fun _ _ h=>h) ?_
 ·refine zh U (fun c1=>?_) (fun c1=>?_)
  ·have e:x.op=1:=(bb hop 1 (by decide) rfl).1 c1;refine zc ?_;exact ⟨_,sX,aN,aJ,by rw[wa c1,e];rfl⟩
  have n1:¬x.op=1:=fun e=>c1 ((bb hop 1 (by decide) rfl).2 e);refine Z<|X (q6 U U)<|ah U<|Y<|zh U (fun c25=>?_) (fun c25=>?_)
  ·have e:x.op=25:=(bb hop 25 (by decide) rfl).1 c25;refine zc ?_;exact ⟨_,sX,aN,aJ,by rw[wa c25,e];rfl⟩
  have n25:¬x.op=25:=fun e=>c25 ((bb hop 25 (by decide) rfl).2 e);refine bZ<|X (q6 U U)<|ah U<|Y ?_;exact ⟨_,sX,aN,aJ,by rw[decide_eq_decide];exact ⟨fun h=>.inr (.inr ((bb hop 26 (by decide) rfl).1 h)),fun h=>(bb hop 26 (by decide) rfl).2 ((h.resolve_left n1).resolve_left n25)⟩⟩
 rintro z hz;refine zq U (fun cz=>?_) (fun cz=>?_)
 ·have e:x.op=1∨x.op=25∨x.op=26:=wg (hz.symm.trans cz);obtain ⟨d1,d0⟩:=hx.made (by rcases e with e|e|e<;>(rw[e];decide));obtain ⟨rfl,rfl,rfl⟩:a=aG s x∧p=pG s x∧r=rG s x:=by have:=hu (by rcases e with e|e|e<;>(rw[hargc,e];decide));simpa using this
  have hI:bc s x=stA (stB (stI s x.dst (aG s x)) x.dst (pG s x)) x.dst (rG s x):=by rw[dA hc];unfold doG;rw[if_neg n0,if_pos e]
  refine bY.regionDrawR (by kernel_rfl) U (zk (.r (.l (.l (.l (.l (.l (.l (.rest _)))))))))<|y6 (i:=0) U (by kernel_rfl) (by kernel_rfl) (by kernel_rfl) (dZ U)<|y6 (i:=1) U (by kernel_rfl) (by kernel_rfl) (by kernel_rfl) (zr U)<|y6 (i:=2) U (by kernel_rfl) (by kernel_rfl) (by kernel_rfl) (ze je U Zx (by decide) U U)<|y6 (i:=3) U (by kernel_rfl) (by kernel_rfl) (by kernel_rfl) (zj (c:=.j _ _) Yh U ⟨_,.head⟩ U)<|y6 (i:=4) U (by kernel_rfl) (by kernel_rfl) (by kernel_rfl) (dC U)<|y6 (i:=5) U (by kernel_rfl) (by kernel_rfl) (by kernel_rfl) (dZ U)<|y6 (i:=6) U (by kernel_rfl) (by kernel_rfl) (by kernel_rfl) (zr U)<|y6 (i:=7) U (by kernel_rfl) (by kernel_rfl) (by kernel_rfl) (ze je U Yi (by decide) U U)<|y6 (i:=8) U (by kernel_rfl) (by kernel_rfl) (by kernel_rfl) (zj (c:=.j _ _) Yu U ⟨_,.head⟩ U)<|y6 (i:=9) U (by kernel_rfl) (by kernel_rfl) (by kernel_rfl) (dC U)<|y6 (i:=10) U (by kernel_rfl) (by kernel_rfl) (by kernel_rfl) (dZ U)<|y6 (i:=11) U (by kernel_rfl) (by kernel_rfl) (by kernel_rfl) (zr U)<|y6 (i:=12) U (by kernel_rfl) (by kernel_rfl) (by kernel_rfl) (ze je U jh (by decide) U U)<|y6 (i:=13) U (by kernel_rfl) (by kernel_rfl) (by kernel_rfl) (zj (c:=.j _ _) jy U ⟨_,.head⟩ U)<|y6 (i:=14) U (by kernel_rfl) (by kernel_rfl) (by kernel_rfl) (dC U)<|y6 (i:=15) U (by kernel_rfl) (by kernel_rfl) (by kernel_rfl) (dC U)<|y6 (i:=16) U (by kernel_rfl) (by kernel_rfl) (by kernel_rfl) (Cl U)<|y6 (i:=17) U (by kernel_rfl) (by kernel_rfl) (by kernel_rfl) (dC U)<|qr (i:=18) U (by kernel_rfl)<|X (y7 (j:=x.dst.toNat) Z5 Z0 U U (we d0).symm ⟨_,.head⟩ ((aH _).trans hl1) (by omega))<|Y<|qr (i:=19) U (by kernel_rfl)<|yw (j:=x.dst.toNat) Z0 U U .head (by first|omega|(simp;omega))<|Y<|qr (i:=20) U (by kernel_rfl)<|X (y7 (j:=x.dst.toNat) ju Zc U U (we d0).symm ⟨_,.t1⟩ ((aP _).trans hl2) (by omega))<|Y<|qr (i:=21) U (by kernel_rfl)<|yy (j:=x.dst.toNat) Zc U U .t1 (by first|omega|(simp;omega))<|Y<|qr (i:=22) U (by kernel_rfl)<|X (y7 (j:=x.dst.toNat) j7 j9 U U (we d0).symm ⟨_,.t2⟩ ((aH _).trans hl3) (by omega))<|Y<|qr (i:=23) U (by kernel_rfl)<|yw (j:=x.dst.toNat) j9 U U .t2 (by first|omega|(simp;omega))<|Y<|lH.done (by kernel_rfl)<|yu ?_
  exact ⟨jo,jt,ids,by rw[hI];exact hids,rfl,by rw[hI];rfl⟩
 have n1:¬(x.op=1∨x.op=25∨x.op=26):=wh (hz.symm.trans cz);refine za<|Z<|X (q6 U U)<|ah U<|Y<|y3 (γ:=Bool) [0,3,4,6,7,8,9,10,11,12,106] (fun z=>[(142,.bool z)]) (fun z=>wO f iw ja jb jc jo jt ids s) (fun z=>z=decide (x.op=2∨x.op=3∨x.op=4)) ?_ (fun _ _ h=>h) ?_
 ·refine zh U (fun c2=>?_) (fun c2=>?_)
  ·have e:x.op=2:=(bb hop 2 (by decide) rfl).1 c2;refine zc ?_;exact ⟨_,sX,aN,aJ,by rw[wa c2,e];rfl⟩
  have n2:¬x.op=2:=fun e=>c2 ((bb hop 2 (by decide) rfl).2 e);refine Z<|X (q6 U U)<|ah U<|Y<|zh U (fun c3=>?_) (fun c3=>?_)
  ·have e:x.op=3:=(bb hop 3 (by decide) rfl).1 c3;refine zc ?_;exact ⟨_,sX,aN,aJ,by rw[wa c3,e];rfl⟩
  have n3:¬x.op=3:=fun e=>c3 ((bb hop 3 (by decide) rfl).2 e);refine bZ<|X (q6 U U)<|ah U<|Y ?_;exact ⟨_,sX,aN,aJ,by rw[decide_eq_decide];exact ⟨fun h=>.inr (.inr ((bb hop 4 (by decide) rfl).1 h)),fun h=>(bb hop 4 (by decide) rfl).2 ((h.resolve_left n2).resolve_left n3)⟩⟩
 rintro z hz2;refine zq U (fun cz2=>?_) (fun cz2=>?_)
 ·have e:x.op=2∨x.op=3∨x.op=4:=wg (hz2.symm.trans cz2);obtain ⟨d1,d0⟩:=hx.made (by rcases e with e|e|e<;>(rw[e];decide));obtain ⟨rfl,_,_⟩:a=aG s x∧p=pG s x∧r=rG s x:=by have:=hu (by rcases e with e|e|e<;>(rw[hargc,e];decide));simpa using this
  obtain ⟨rfl,_⟩:b=bG s x∧q=qG s x:=by have:=hw (by rcases e with e|e|e<;>(rw[hargc,e];decide));simpa using this
  obtain ⟨k,hk,hxk⟩:∃k:Nat,k≤2∧x.op - 2=(k:Int):=⟨(x.op - 2).toNat,by omega,by omega⟩;have hI:bc s x=stI s x.dst (IntKind.i64.wrap (iH k (aG s x) (bG s x))):=by
   rw[dA hc];unfold doG;rw[if_neg n0,if_neg n1];have:k=0∨k=1∨k=2:=by omega
   rcases this with rfl|rfl|rfl
   ·rw[if_pos (by omega)]
   ·rw[if_neg (by omega),if_pos (by omega)]
   rw[if_neg (by omega),if_neg (by omega),if_pos (by omega)]
  have hwr:=N4 (E:=E) hk (x:=aG s x) (y:=bG s x);rw[←hxk] at hwr;refine zn (fun j=>Nat.beq j 12) (by kernel_rfl) U (zk (.r (.rest _)))<|D 0 U (dZ U)<|D 1 U (zr U)<|D 2 U (ze je U Zx (by decide) U U)<|D 3 U (zj (c:=.j _ _) Yh U ⟨_,.head⟩ U)<|D 4 U (dC U)<|D 5 U (dk jd U Zu U U)<|D 6 U (d9 Y2 U)<|D 7 U (Gv.sub U U (by unfold mB;omega))<|D 8 U (dC U)<|D 9 U (dC U)<|bp 10 U<|zb (hwr) U<|Y<|bp 11 U<|X (y7 (j:=x.dst.toNat) Z5 Z0 U U (we d0).symm ⟨_,.head⟩ ((aH _).trans hl1) (by omega))<|Y<|y4<|yg (i:=12) U (by kernel_rfl) (by kernel_rfl)<|yw (j:=x.dst.toNat) Z0 U U .t1 (by first|omega|(simp;omega))<|Y<|y8 (by kernel_rfl)<|yu ?_;exact ⟨jo,jt,ids,by rw[hI];exact hids,rfl,by rw[hI];rfl⟩
 have n2:¬(x.op=2∨x.op=3∨x.op=4):=wh (hz2.symm.trans cz2);refine za<|Z<|X (q6 U U)<|ah U<|Y<|y3 (γ:=Bool) [0,4,6,7,8,9,10,11,12,106] (fun z=>[(158,.bool z)]) (fun z=>wO f iw ja jb jc jo jt ids s) (fun z=>z=decide (x.op=5∨x.op=6)) ?_ (fun _ _ h=>h) ?_
 ·refine zh U (fun c5=>?_) (fun c5=>?_)
  ·have e:x.op=5:=(bb hop 5 (by decide) rfl).1 c5;refine zc ?_;exact ⟨_,jX,aN,aJ,by rw[wa c5,e];rfl⟩
  have n5:¬x.op=5:=fun e=>c5 ((bb hop 5 (by decide) rfl).2 e);refine bZ<|X (q6 U U)<|ah U<|Y ?_;exact ⟨_,jX,aN,aJ,by rw[decide_eq_decide];exact ⟨fun h=>.inr ((bb hop 6 (by decide) rfl).1 h),fun h=>(bb hop 6 (by decide) rfl).2 (h.resolve_left n5)⟩⟩
 rintro z hz3;refine zq U (fun cz3=>?_) (fun cz3=>?_)
 ·have e:x.op=5∨x.op=6:=wg (hz3.symm.trans cz3);obtain ⟨d1,d0⟩:=hx.made (by rcases e with e|e<;>(rw[e];decide));obtain ⟨rfl,_,_⟩:a=aG s x∧p=pG s x∧r=rG s x:=by have:=hu (by rcases e with e|e<;>(rw[hargc,e];decide));simpa using this
  obtain ⟨rfl,_⟩:b=bG s x∧q=qG s x:=by have:=hw (by rcases e with e|e<;>(rw[hargc,e];decide));simpa using this
  have hD:doG s x=if bG s x=0 then d7 s 2 else stI s x.dst (if x.op=6 then qY (aG s x) (bG s x) else vN (aG s x) (bG s x)):=by
   rcases e with e|e<;>(unfold doG;simp[e])
  refine za<|Z<|C U<|au U U<|Y<|zh U (fun c0b=>?_) (fun c0b=>?_)
  ·have hI:bc s x=d7 s 2:=by rw[dA hc,hD,if_pos (by omega)]
   refine Z<|bf U<|zy U (zk (.l (.l (.l (.l (.l (.l (.l (.rest _))))))))) (fx f iw ja jb jc jo jt ids s 2) ?_;rintro r164 O164 ⟨rfl,rfl⟩;refine Y<|zf<|yu ?_;exact ⟨jo,jt,ids,by rw[hI];exact hids,rfl,by rw[hI];rfl⟩
  have hb0:¬bG s x=0:=by omega
  have hI:bc s x=stI s x.dst (if x.op=6 then qY (aG s x) (bG s x) else vN (aG s x) (bG s x)):=by rw[dA hc,hD,if_neg hb0]
  refine zc<|Z<|C U<|C U<|zb (N5 hb0) U<|X (v8 U)<|X (nU U U)<|X (nU U U)<|ap U<|ap U<|Y<|za<|Z<|X (yn (v:=.str _) U)<|X (q6 U U)<|Y<|y3 (γ:=Int) [0,12] (fun v=>[(13,.i v)]) (fun v=>wO f iw ja jb jc jo jt ids s) (fun v=>v=if x.op=6 then qY (aG s x) (bG s x) else vN (aG s x) (bG s x)) ?_ (fun _ _ h=>h) ?_
  ·refine zh U (fun c6=>?_) (fun c6=>?_)
   ·have e6:x.op=6:=(bb hop 6 (by decide) rfl).1 c6;refine bZ<|C U<|ap U<|Y ?_;exact ⟨_,cV,aN,aJ,by rw[if_pos e6];rfl⟩
   have e6:¬x.op=6:=fun e=>c6 ((bb hop 6 (by decide) rfl).2 e);refine zc ?_;exact ⟨_,cV,aN,aJ,by rw[if_neg e6];rfl⟩
  rintro v hv3;rw[←hv3] at hI;refine bZ<|bf U<|aC U<|X (ze je U Zx (by decide) U U)<|X (zj (c:=.j _ _) Yh U ⟨_,.head⟩ U)<|C U<|C U<|X (y7 (j:=x.dst.toNat) Z5 Z0 U U (we d0).symm ⟨_,.t1⟩ ((aH _).trans hl1) (by omega))<|yw (j:=x.dst.toNat) Z0 U U .t1 (by first|omega|(simp;omega))<|Y<|yu ?_;exact ⟨jo,jt,ids,by rw[hI];exact hids,rfl,by rw[hI];rfl⟩
 have n5:¬(x.op=5∨x.op=6):=wh (hz3.symm.trans cz3);refine Z<|X (q6 U U)<|ah U<|Y<|zh U (fun c7=>?_) (fun c7=>?_)
 ·have e:x.op=7:=(bb hop 7 (by decide) rfl).1 c7;obtain ⟨d1,d0⟩:=hx.made (by rw[e];decide);obtain ⟨rfl,_,_⟩:a=aG s x∧p=pG s x∧r=rG s x:=by have:=hu (by rw[hargc,e];decide);simpa using this
  obtain ⟨rfl,_⟩:b=bG s x∧q=qG s x:=by have:=hw (by rw[hargc,e];decide);simpa using this
  have hI:bc s x=stB s x.dst (decide (aG s x=bG s x)):=by rw[dA hc];unfold doG;simp[e]
  refine bZ<|bf U<|aC U<|X (ze je U Yi (by decide) U U)<|X (zj (c:=.j _ _) Yu U ⟨_,.head⟩ U)<|C U<|C U<|C U<|au U U<|X (y7 (j:=x.dst.toNat) ju Zc U U (we d0).symm ⟨_,.t2⟩ ((aP _).trans hl2) (by omega))<|yy (j:=x.dst.toNat) Zc U U .t2 (by first|omega|(simp;omega))<|Y<|yu ?_;exact ⟨jo,jt,ids,by rw[hI];exact hids,rfl,by rw[hI];rfl⟩
 have n7:¬x.op=7:=fun e=>c7 ((bb hop 7 (by decide) rfl).2 e);refine Z<|X (q6 U U)<|ah U<|Y<|zh U (fun c8=>?_) (fun c8=>?_)
 ·have e:x.op=8:=(bb hop 8 (by decide) rfl).1 c8;obtain ⟨d1,d0⟩:=hx.made (by rw[e];decide);obtain ⟨rfl,_,_⟩:a=aG s x∧p=pG s x∧r=rG s x:=by have:=hu (by rw[hargc,e];decide);simpa using this
  obtain ⟨rfl,_⟩:b=bG s x∧q=qG s x:=by have:=hw (by rw[hargc,e];decide);simpa using this
  have hI:bc s x=stB s x.dst (decide (aG s x<bG s x)):=by rw[dA hc];unfold doG;simp[e]
  refine bZ<|bf U<|aC U<|X (ze je U Yi (by decide) U U)<|X (zj (c:=.j _ _) Yu U ⟨_,.head⟩ U)<|C U<|C U<|C U<|aq U U<|X (y7 (j:=x.dst.toNat) ju Zc U U (we d0).symm ⟨_,.t2⟩ ((aP _).trans hl2) (by omega))<|yy (j:=x.dst.toNat) Zc U U .t2 (by first|omega|(simp;omega))<|Y<|yu ?_;exact ⟨jo,jt,ids,by rw[hI];exact hids,rfl,by rw[hI];rfl⟩
 have n8:¬x.op=8:=fun e=>c8 ((bb hop 8 (by decide) rfl).2 e);refine Z<|X (q6 U U)<|ah U<|Y<|zh U (fun c9=>?_) (fun c9=>?_)
 ·have e:x.op=9:=(bb hop 9 (by decide) rfl).1 c9;obtain ⟨d1,d0⟩:=hx.made (by rw[e];decide);obtain ⟨rfl,_,_⟩:a=aG s x∧p=pG s x∧r=rG s x:=by have:=hu (by rw[hargc,e];decide);simpa using this
  obtain ⟨rfl,_⟩:b=bG s x∧q=qG s x:=by have:=hw (by rw[hargc,e];decide);simpa using this
  have hI:bc s x=stB s x.dst (decide (aG s x≤bG s x)):=by rw[dA hc];unfold doG;simp[e]
  refine bZ<|bf U<|aC U<|X (ze je U Yi (by decide) U U)<|X (zj (c:=.j _ _) Yu U ⟨_,.head⟩ U)<|C U<|C U<|C U<|X (Gv.leq U U)<|X (y7 (j:=x.dst.toNat) ju Zc U U (we d0).symm ⟨_,.t2⟩ ((aP _).trans hl2) (by omega))<|yy (j:=x.dst.toNat) Zc U U .t2 (by first|omega|(simp;omega))<|Y<|yu ?_;exact ⟨jo,jt,ids,by rw[hI];exact hids,rfl,by rw[hI];rfl⟩
 have n9:¬x.op=9:=fun e=>c9 ((bb hop 9 (by decide) rfl).2 e);refine Z<|X (q6 U U)<|ah U<|Y<|zh U (fun c10=>?_) (fun c10=>?_)
 ·have e:x.op=10:=(bb hop 10 (by decide) rfl).1 c10;obtain ⟨d1,d0⟩:=hx.made (by rw[e];decide);obtain ⟨_,rfl,_⟩:a=aG s x∧p=pG s x∧r=rG s x:=by have:=hu (by rw[hargc,e];decide);simpa using this
  have hI:bc s x=stB s x.dst (!pG s x):=by rw[dA hc];unfold doG;simp[e]
  refine bZ<|bf U<|aC U<|X (ze je U Yi (by decide) U U)<|X (zj (c:=.j _ _) Yu U ⟨_,.head⟩ U)<|C U<|aw U<|aL U<|X (y7 (j:=x.dst.toNat) ju Zc U U (we d0).symm ⟨_,.t2⟩ ((aP _).trans hl2) (by omega))<|yy (j:=x.dst.toNat) Zc U U .t2 (by first|omega|(simp;omega))<|Y<|yu ?_;exact ⟨jo,jt,ids,by rw[hI];exact hids,rfl,by rw[hI];rfl⟩
 have n10:¬x.op=10:=fun e=>c10 ((bb hop 10 (by decide) rfl).2 e);refine Z<|X (q6 U U)<|ah U<|Y<|zh U (fun c11=>?_) (fun c11=>?_)
 ·have e:x.op=11:=(bb hop 11 (by decide) rfl).1 c11;obtain ⟨d1,d0⟩:=hx.made (by rw[e];decide);obtain ⟨_,rfl,_⟩:a=aG s x∧p=pG s x∧r=rG s x:=by have:=hu (by rw[hargc,e];decide);simpa using this
  obtain ⟨_,rfl⟩:b=bG s x∧q=qG s x:=by have:=hw (by rw[hargc,e];decide);simpa using this
  have hI:bc s x=stB s x.dst (pG s x&&qG s x):=by rw[dA hc];unfold doG;simp[e]
  refine bZ<|bf U<|aC U<|X (ze je U Yi (by decide) U U)<|X (zj (c:=.j _ _) Yu U ⟨_,.head⟩ U)<|C U<|aw U<|aw U<|zo (s:=232) U (fun cp=>?_) (fun cp=>?_)
  ·have cp:pG s x=true:=cp;rw[cp,Bool.true_and] at hI;refine M U U cp<|aw U<|aA U cp U<|X (y7 (j:=x.dst.toNat) ju Zc U U (we d0).symm ⟨_,.t2⟩ ((aP _).trans hl2) (by omega))<|yy (j:=x.dst.toNat) Zc U U .t2 (by first|omega|(simp;omega))<|Y<|yu ?_;exact ⟨jo,jt,ids,by rw[hI];exact hids,rfl,by rw[hI];rfl⟩
  have cp:pG s x=false:=cp;rw[cp,Bool.false_and] at hI;refine H U U cp<|ay U cp U<|X (y7 (j:=x.dst.toNat) ju Zc U U (we d0).symm ⟨_,.t2⟩ ((aP _).trans hl2) (by omega))<|yy (j:=x.dst.toNat) Zc U U .t2 (by first|omega|(simp;omega))<|Y<|yu ?_;exact ⟨jo,jt,ids,by rw[hI];exact hids,rfl,by rw[hI];rfl⟩
 have n11:¬x.op=11:=fun e=>c11 ((bb hop 11 (by decide) rfl).2 e);refine Z<|X (q6 U U)<|ah U<|Y<|zh U (fun c12=>?_) (fun c12=>?_)
 ·have e:x.op=12:=(bb hop 12 (by decide) rfl).1 c12;obtain ⟨d1,d0⟩:=hx.made (by rw[e];decide);obtain ⟨_,_,rfl⟩:a=aG s x∧p=pG s x∧r=rG s x:=by have:=hu (by rw[hargc,e];decide);simpa using this
  have hrr:rG s x<s.y.length:=(jJ hg (hx.a0 (by rw[hargc,e];decide))).2;refine za<|Z<|C U<|aq U U<|Y<|zh U (fun cr=>?_) (fun cr=>?_)
  ·have cr:rG s x<0:=by omega
   have hI:bc s x=d7 s 2:=by rw[dA hc];unfold doG;simp[e,cr]
   refine Z<|bf U<|zy U (zk (.l (.l (.l (.l (.l (.l (.l (.rest _))))))))) (fx f iw ja jb jc jo jt ids s 2) ?_;rintro r241 O241 ⟨rfl,rfl⟩;refine Y<|zf<|yu ?_;exact ⟨jo,jt,ids,by rw[hI];exact hids,rfl,by rw[hI];rfl⟩
  have cr:¬rG s x<0:=by omega
  have hI:bc s x=stI s x.dst ((dw s (rG s x)).length):=by rw[dA hc];unfold doG;simp[e,cr]
  obtain ⟨w,hw0⟩:=vj hids (j:=(rG s x).toNat) (by omega)
  refine zc<|zn (fun j=>Nat.beq j 14) (by kernel_rfl) U (zk (.r (.l (.l (.l (.r (.rest _)))))))<|D 0 U (dZ U)<|D 1 U (zr U)<|D 2 U (ze je U Zx (by decide) U U)<|D 3 U (zj (c:=.j _ _) Yh U ⟨_,.head⟩ U)<|D 4 U (dC U)<|D 5 U (dZ U)<|D 6 U (zr U)<|D 7 U (ze je U Yj (by decide) U U)<|D 8 U (zj (c:=.j _ _) X3 U ⟨_,.head⟩ U)<|D 9 U (dC U)<|D 10 U (y7 (j:=(rG s x).toNat) Zn Zx U U (we (Int.not_lt.1 cr)).symm ⟨_,.t1⟩ (kx hids) (by omega))<|D 11 U (qq (c:=_) Yh U ⟨_,.t1⟩ (jV hw0 (jI (by omega) hrr)))<|D 12 U (qm Z5 U)<|bp 13 U<|X (y7 (j:=x.dst.toNat) Z5 Z0 U U (we d0).symm ⟨_,.head⟩ ((aH _).trans hl1) (by omega))<|Y<|y4<|yg (i:=14) U (by kernel_rfl) (by kernel_rfl)<|yw (j:=x.dst.toNat) Z0 U U .t2 (by first|omega|(simp;omega))<|Y<|y8 (by kernel_rfl)<|yv (yr (yx .t4))<|yv (yr (yx .t4))<|yv (yr (yx .t4))<|yv (yr (yx .t3))<|yu ?_
  exact ⟨jo,jt,ids,by rw[hI];exact hids,rfl,by rw[hI];rfl⟩
 have n12:¬x.op=12:=fun e=>c12 ((bb hop 12 (by decide) rfl).2 e);refine Z<|X (q6 U U)<|ah U<|Y<|zh U (fun c13=>?_) (fun c13=>?_)
 ·have e:x.op=13:=(bb hop 13 (by decide) rfl).1 c13;obtain ⟨d1,d0⟩:=hx.made (by rw[e];decide);obtain ⟨_,_,rfl⟩:a=aG s x∧p=pG s x∧r=rG s x:=by have:=hu (by rw[hargc,e];decide);simpa using this
  obtain ⟨rfl,_⟩:b=bG s x∧q=qG s x:=by have:=hw (by rw[hargc,e];decide);simpa using this
  refine za<|Z<|bf U<|C U<|C U<|zy U (zk (.l (.l (.l (.l (.l (.l (.l (.rest _))))))))) (nt f iw ja jb jc jo jt ids s (rG s x) (bG s x) hids) ?_;rintro r261 O261 ⟨rfl,rfl⟩;refine aL U<|Y<|zq U (fun cp=>?_) (fun cp=>?_)
  ·have cp:¬dK s (rG s x) (bG s x)=true:=by simpa using cp
   have hI:bc s x=d7 s 2:=by rw[dA hc];unfold doG;simp[e,cp]
   refine Z<|bf U<|zy U (zk (.l (.l (.l (.l (.l (.l (.l (.rest _))))))))) (fx f iw ja jb jc jo jt ids s 2) ?_;rintro r264 O264 ⟨rfl,rfl⟩;refine Y<|zf<|yu ?_;exact ⟨jo,jt,ids,by rw[hI];exact hids,rfl,by rw[hI];rfl⟩
  have cp:dK s (rG s x) (bG s x)=true:=by simpa using cp
  obtain ⟨h1,h2,h3,h4⟩:=lD.1 cp;obtain ⟨w,hw0⟩:=vj hids (j:=(rG s x).toNat) (by omega);obtain ⟨Xq,hX1,hX2⟩:=yM LD ids s.y _ hw0 (jI h1 h2);have hI:bc s x=stI s x.dst (vi (dw s (rG s x)) (bG s x)):=by rw[dA hc];unfold doG;simp[e,cp]
  refine yd (aR.bagOut (i:=w) (o:=.u 1 2 (cI (dw s (rG s x)))) (X':=Xq) (hX1) .t6)<|zc<|zn (fun j=>Nat.beq j 16) (by kernel_rfl) U (zk (.r (.r (.l (.l (.l (.r (.rest _))))))))<|D 0 U (dZ U)<|D 1 U (zr U)<|D 2 U (ze je U Zx (by decide) U U)<|D 3 U (zj (c:=.j _ _) Yh U ⟨_,.t1⟩ U)<|D 4 U (dC U)<|D 5 U (dZ U)<|D 6 U (zr U)<|D 7 U (ze je U Yj (by decide) U U)<|D 8 U (zj (c:=.j _ _) X3 U ⟨_,.t1⟩ U)<|D 9 U (dC U)<|D 10 U (y7 (j:=(rG s x).toNat) Zn Zx U U (we h1).symm ⟨_,.t2⟩ (kx hids) (by omega))<|D 11 U (qq (c:=_) Yh U ⟨_,.t2⟩ (jV hw0 (jI h1 h2)))<|D 12 U (dC U)<|D 13 U (y7 (j:=(bG s x).toNat) Z5 Z0 U U (we h3).symm ⟨_,.head⟩ (aH _) (by omega))<|D 14 U (yp (j:=(bG s x).toNat) Zb U ⟨_,.head⟩ (gz h4 h3))<|bp 15 U<|X (y7 (j:=x.dst.toNat) Z5 Z0 U U (we d0).symm ⟨_,.head⟩ ((aH _).trans hl1) (by omega))<|Y<|y4<|yg (i:=16) U (by kernel_rfl) (by kernel_rfl)<|yw (j:=x.dst.toNat) Z0 U U .t3 (by first|omega|(simp;omega))<|Y<|y8 (by kernel_rfl)<|yv (aR.bagIn (X':=vh ids s.y) .head (hX1.symm) .t6)<|yv (yr (yx .t4))<|yv (yr (yx .t4))<|yv (yr (yx .t4))<|yv (yr (yx .t3))<|yu ?_
  exact ⟨jo,jt,ids,by rw[hI];exact hids,rfl,by rw[hI];rfl⟩
 have n13:¬x.op=13:=fun e=>c13 ((bb hop 13 (by decide) rfl).2 e);refine Z<|X (q6 U U)<|ah U<|Y<|zh U (fun c14=>?_) (fun c14=>?_)
 ·have e:x.op=14:=(bb hop 14 (by decide) rfl).1 c14;obtain ⟨_,_,rfl⟩:a=aG s x∧p=pG s x∧r=rG s x:=by have:=hu (by rw[hargc,e];decide);simpa using this
  obtain ⟨rfl,_⟩:b=bG s x∧q=qG s x:=by have:=hw (by rw[hargc,e];decide);simpa using this
  obtain ⟨q2,r2⟩:=hx.a2 (by rw[hargc,e];decide);have hal:2<x.args.length:=by rw[hargc,e];decide
  refine za<|Z<|bf U<|C U<|C U<|zy U (zk (.l (.l (.l (.l (.l (.l (.l (.rest _))))))))) (nt f iw ja jb jc jo jt ids s (rG s x) (bG s x) hids) ?_;rintro r286 O286 ⟨rfl,rfl⟩;refine aL U<|Y<|zq U (fun cp=>?_) (fun cp=>?_)
  ·have cp:¬dK s (rG s x) (bG s x)=true:=by simpa using cp
   have hI:bc s x=d7 s 2:=by rw[dA hc];unfold doG;simp[e,cp]
   refine Z<|bf U<|zy U (zk (.l (.l (.l (.l (.l (.l (.l (.rest _))))))))) (fx f iw ja jb jc jo jt ids s 2) ?_;rintro r289 O289 ⟨rfl,rfl⟩;refine Y<|zf<|yu ?_;exact ⟨jo,jt,ids,by rw[hI];exact hids,rfl,by rw[hI];rfl⟩
  have cp:dK s (rG s x) (bG s x)=true:=by simpa using cp
  obtain ⟨h1,h2,h3,h4⟩:=lD.1 cp;obtain ⟨w,hw0⟩:=vj hids (j:=(rG s x).toNat) (by omega);obtain ⟨Xq,hX1,hX2⟩:=yM LD ids s.y _ hw0 (jI h1 h2);have hI:bc s x={ s with y:=s.y.set (rG s x).toNat ((dw s (rG s x)).set (bG s x).toNat (vi s.ints (Cq x))) }:=by rw[dA hc];unfold doG;simp[e,cp]
  refine yd (aR.bagOut (i:=w) (o:=.u 1 2 (cI (dw s (rG s x)))) (X':=Xq) (hX1) .t6)<|zc<|zn (fun j=>Nat.beq j 18) (by kernel_rfl) U (zk (.l (.r (.r (.l (.l (.r (.rest _))))))))<|D 0 U (dZ U)<|D 1 U (zr U)<|D 2 U (ze je U Yj (by decide) U U)<|D 3 U (zj (c:=.j _ _) X3 U ⟨_,.head⟩ U)<|D 4 U (dC U)<|D 5 U (y7 (j:=(rG s x).toNat) Zn Zx U U (we h1).symm ⟨_,.t2⟩ (kx hids) (by omega))<|D 6 U (qq (c:=_) Yh U ⟨_,.t2⟩ (jV hw0 (jI h1 h2)))<|D 7 U (dC U)<|D 8 U (dZ U)<|D 9 U (zr U)<|D 10 U (ze je U Zx (by decide) U U)<|D 11 U (zj (c:=.j _ _) Yh U ⟨_,.head⟩ U)<|D 12 U (zJ U)<|D 13 U (bD 2 j7 j9 U U U (vW hal))<|D 14 U (d9 jg U)<|D 15 U (y7 (j:=(Cq x).toNat) Z5 Z0 U U (we r2).symm ⟨_,.t1⟩ ((aH _).trans hl1) (by omega))<|D 16 U (yp (j:=(Cq x).toNat) Zb U ⟨_,.t1⟩ (gz (by omega) r2))<|bp 17 U<|X (y7 (j:=(bG s x).toNat) Z5 Z0 U U (we h3).symm ⟨_,.head⟩ (aH _) (by omega))<|Y<|y4<|yg (i:=18) U (by kernel_rfl) (by kernel_rfl)<|yw (j:=(bG s x).toNat) Z0 U U .t3 (by first|omega|(simp;omega))<|Y<|y8 (by kernel_rfl)<|yv (aR.bagIn (X':=vh ids (s.y.set (rG s x).toNat ((dw s (rG s x)).set (bG s x).toNat (vi s.ints (Cq x))))) .t3 ((by have:=hX2 w ((dw s (rG s x)).set (bG s x).toNat (vi s.ints (Cq x)));rw[JQ hw0] at this;exact this)) .t6)<|yv (yr (yx .t2))<|yv (yr (yx .t4))<|yv (yr (yx .t4))<|yv (yr (yx .t4))<|yv (yr (yx .t4))<|yu ?_
  exact ⟨jo,jt,ids,by rw[hI];simpa using hids,rfl,by rw[hI];unfold wO wR LE;rw[Cc (jI h1 h2) (List.length_set ..)];simp⟩
 have n14:¬x.op=14:=fun e=>c14 ((bb hop 14 (by decide) rfl).2 e);refine Z<|X (q6 U U)<|ah U<|Y<|zh U (fun c15=>?_) (fun c15=>?_)
 ·have e:x.op=15:=(bb hop 15 (by decide) rfl).1 c15;obtain ⟨d1,d0⟩:=hx.made (by rw[e];decide);obtain ⟨rfl,_,_⟩:a=aG s x∧p=pG s x∧r=rG s x:=by have:=hu (by rw[hargc,e];decide);simpa using this
  refine zd<|za<|y3 (γ:=Bool) [0,7,12] (fun z=>[(333,.bool z)]) (fun z=>wO f iw ja jb jc jo jt ids s) (fun z=>z=decide (aG s x<0∨64<aG s x)) ?_ (fun _ _ h=>h) ?_
  ·refine bZ<|C U<|aq U U<|aw U<|zo (s:=336) U (fun cn=>?_) (fun cn=>?_)
   ·have cn2:aG s x<0:=by simpa using cn
    refine H U U cn<|H U U cn<|aA U cn U<|ah U<|Y ?_;exact ⟨_,eX,aN,aJ,by rw[wa (.inl cn2)]⟩
   have cn2:¬aG s x<0:=by simpa using cn
   refine M U U cn<|C U<|M U U cn<|bg U U<|ay U cn U<|ah U<|Y ?_;exact ⟨_,eX,aN,aJ,by rw[decide_eq_decide];exact ⟨fun h=>.inr h,fun h=>h.resolve_left cn2⟩⟩
  rintro z hz4;refine zq U (fun cz4=>?_) (fun cz4=>?_)
  ·have cz4:aG s x<0∨64<aG s x:=wg (hz4.symm.trans cz4);have hI:bc s x=d7 s 2:=by rw[dA hc];unfold doG;simp[e,cz4]
   refine bZ<|bf U<|zy U (zk (.l (.l (.l (.l (.l (.l (.l (.rest _))))))))) (fx f iw ja jb jc jo jt ids s 2) ?_;rintro r341 O341 ⟨rfl,rfl⟩;refine Y<|yu ?_;exact ⟨jo,jt,ids,by rw[hI];exact hids,rfl,by rw[hI];rfl⟩
  have cz4:¬(aG s x<0∨64<aG s x):=wh (hz4.symm.trans cz4);refine Z<|bf U<|aC U<|X (ze je U Yj (by decide) U U)<|X (zj (c:=.j _ _) X3 U ⟨_,.head⟩ U)<|X (qm Zn U)<|X (q7 U U)<|ah U<|Y<|zh U (fun c32=>?_) (fun c32=>?_)
  ·have c32:32≤s.y.length:=by omega
   have hI:bc s x=d7 s 3:=by rw[dA hc];unfold doG;rw[e,if_neg (by decide),if_neg (by decide),if_neg (by decide),if_neg (by decide),if_neg (by decide),if_neg (by decide),if_neg (by decide),if_neg (by decide),if_neg (by decide),if_neg (by decide),if_neg (by decide),if_neg (by decide),if_neg (by decide),if_neg (by decide),if_neg (by decide),if_pos rfl,if_neg cz4,if_pos c32]
   refine bZ<|bf U<|zy U (zk (.l (.l (.l (.l (.l (.l (.l (.rest _))))))))) (fx f iw ja jb jc jo jt ids s 3) ?_;rintro r350 O350 ⟨rfl,rfl⟩;refine Y<|yu ?_;exact ⟨jo,jt,ids,by rw[hI];exact hids,rfl,by rw[hI];rfl⟩
  have c32:¬32≤s.y.length:=by omega
  have hI:bc s x=stA { s with y:=s.y++[List.replicate (aG s x).toNat 0] } x.dst s.y.length:=by rw[dA hc];unfold doG;rw[e,if_neg (by decide),if_neg (by decide),if_neg (by decide),if_neg (by decide),if_neg (by decide),if_neg (by decide),if_neg (by decide),if_neg (by decide),if_neg (by decide),if_neg (by decide),if_neg (by decide),if_neg (by decide),if_neg (by decide),if_neg (by decide),if_neg (by decide),if_pos rfl,if_neg cz4,if_neg c32]
  refine za<|zn (fun j=>Nat.beq j 11) (by kernel_rfl) U (zk (.r (.rest _)))<|D 0 U (dZ U)<|D 1 U (dZ U)<|D 2 U (zr U)<|D 3 U (ze je U Yj (by decide) U U)<|D 4 U (zj (c:=.j _ _) X3 U ⟨_,.head⟩ U)<|D 5 U (dC U)<|bp 6 U<|qp (m:=(aG s x).toNat) Z5 X9 U U U U U (by omega) (by omega) (by show (8:Int)*_≤_;omega) (by omega)<|fun i316=>Y<|bp 7 U<|zw (rows:=[[_]]) JP U U U U U<|Y<|bp 8 U<|yb (k:=1) Zn type66 U U U U U (fun _=>.t4) (by rw[kx hids];omega) (by decide) U (by show (_+1)*24≤_;omega) (by show _+1≤_;omega)<|fun i318=>Y<|yo (i:=9) U (by kernel_rfl) (by kernel_rfl) (by kernel_rfl) (by kernel_rfl) (zr U)<|D 10 U (ze je U Yj (by decide) U U)<|y4<|yg (i:=11) U (by kernel_rfl) (by kernel_rfl)<|yh (l:=[_]) (new:=[_,_,_,_,_,_,_,_,_,_,_,_,_,_,_,_,_,_,_,_,_,_,_]) Yj U U U U U U .head U U<|Y<|y8 (by kernel_rfl)<|yd (aR.bagIn (X':=vh (ids++[i316]) (s.y++[List.replicate (aG s x).toNat 0])) .t1 (Cd i316 _ hids) .t6)<|zn (fun j=>Nat.beq j 12) (by kernel_rfl) U (zk (.r (.rest _)))<|D 0 U (dZ U)<|D 1 U (zr U)<|D 2 U (ze je U jh (by decide) U U)<|D 3 U (zj (c:=.j _ _) jy U ⟨_,.head⟩ U)<|D 4 U (dC U)<|D 5 U (dZ U)<|D 6 U (zr U)<|D 7 U (ze je U Yj (by decide) U U)<|D 8 U (zj (c:=.j _ _) X3 U ⟨_,.head⟩ U)<|D 9 U (qm Zn U)<|D 10 U (Gv.sub U U (by unfold mB;simp only[List.length_cons,List.length_nil];omega))<|bp 11 U<|X (y7 (j:=x.dst.toNat) j7 j9 U U (we d0).symm ⟨_,.t2⟩ ((aH _).trans hl3) (by omega)) ?_
  refine Y<|y4<|yg (i:=12) U (by kernel_rfl) (by kernel_rfl)<|yw (j:=x.dst.toNat) j9 U U .t3 (by first|omega|(simp;omega))<|Y<|y8 (by kernel_rfl)<|yv (yr (yx .t5))<|yv (yr (yx .t5))<|yv (yr (yx .t5))<|yv (yr (yx .t5))<|yv (yr (yx .t5))<|yv (yr (yx .t5))<|yu ?_;exact ⟨i318,jt,ids++[i316],by rw[hI];simp[stA,hids],rfl,by rw[hI];exact NC f iw ja jb jc i318 jt hids i316 (aG s x).toNat x.dst _ (by simp only[List.length_cons,List.length_nil];omega)⟩
 have n15:¬x.op=15:=fun e=>c15 ((bb hop 15 (by decide) rfl).2 e);refine Z<|X (q6 U U)<|ah U<|Y<|zh U (fun c16=>?_) (fun c16=>?_)
 ·have e:x.op=16:=(bb hop 16 (by decide) rfl).1 c16;obtain ⟨d1,d0⟩:=hx.made (by rw[e];decide);have hI:bc s x=stA s x.dst (-1):=by rw[dA hc];unfold doG;simp[e]
  refine bZ<|bf U<|aC U<|X (ze je U jh (by decide) U U)<|X (zj (c:=.j _ _) jy U ⟨_,.head⟩ U)<|C U<|X (y7 (j:=x.dst.toNat) j7 j9 U U (we d0).symm ⟨_,.t3⟩ ((aH _).trans hl3) (by omega))<|yw (j:=x.dst.toNat) j9 U U .t3 (by first|omega|(simp;omega))<|Y<|yu ?_;exact ⟨jo,jt,ids,by rw[hI];exact hids,rfl,by rw[hI];rfl⟩
 have n16:¬x.op=16:=fun e=>c16 ((bb hop 16 (by decide) rfl).2 e);refine Z<|X (q6 U U)<|ah U<|Y<|zh U (fun c17=>?_) (fun c17=>?_)
 ·have e:x.op=17:=(bb hop 17 (by decide) rfl).1 c17;obtain ⟨rfl,_,_⟩:a=aG s x∧p=pG s x∧r=rG s x:=by have:=hu (by rw[hargc,e];decide);simpa using this
  refine za<|Z<|bf U<|aC U<|X (ze je U Yd (by decide) U U)<|X (ze Zl U Zx (by decide) U U)<|X (zj (c:=.j _ _) Yh U ⟨_,.head⟩ U)<|X (qm Z5 U)<|X (q7 U U)<|Y<|zh U (fun ct=>?_) (fun ct=>?_)
  ·have ct:4096≤s.trace.length:=by omega
   have hI:bc s x=d7 s 3:=by rw[dA hc];unfold doG;simp[e,ct]
   refine Z<|bf U<|zy U (zk (.l (.l (.l (.l (.l (.l (.l (.rest _))))))))) (fx f iw ja jb jc jo jt ids s 3) ?_;rintro r369 O369 ⟨rfl,rfl⟩;refine Y<|zf<|yu ?_;exact ⟨jo,jt,ids,by rw[hI];exact hids,rfl,by rw[hI];rfl⟩
  have ct:¬4096≤s.trace.length:=by omega
  have hI:bc s x={ s with trace:=s.trace++[aG s x] }:=by rw[dA hc];unfold doG;simp[e,ct]
  refine zc<|bZ<|bf U<|bf U<|aC U<|X (ze je U Yd (by decide) U U)<|X (ze Zl U Zx (by decide) U U)<|X (zj (c:=.j _ _) Yh U ⟨_,.head⟩ U)<|C U<|zw (rows:=[[_]]) NB U U U U U<|yb (k:=1) Z5 X9 U U U U U (fun _=>.t5) (by rw[aH];omega) (by decide) U (by show (_+1)*8≤_;omega) (by show _+1≤_;omega)<|fun i378=>aC U<|X (ze je U Yd (by decide) U U)<|X (ze Zl U Zx (by decide) U U)<|yh (l:=[_]) (new:=[_,_,_,_,_,_,_,_,_,_,_,_,_,_,_,_,_,_,_,_,_,_,_]) Zx U U U U U U .head U U<|Y<|yu ?_;exact ⟨jo,i378,ids,by rw[hI];exact hids,rfl,by rw[hI];exact ND f iw ja jb jc jo i378 _⟩
 exfalso
 have n17:¬x.op=17:=fun e=>c17 ((bb hop 17 (by decide) rfl).2 e);omega
end
section
open Go.Proofs.Tryz
section
variable {E:World} {P:Program} {ops:Array Oper} {K:aU→OL→Prop} {env:aU} {O O':OL} {rest:List Oper}
variable {d ty:Nat} {pos:String} {af:Array Edge} {x y z:Operand} {t u e:TypeId}
theorem ax.appendO {ti:TypeInfo} {zv:Value} {k n m i j:Nat} {T2:TypeId} {cs ds:List AV} {f:Nat→OL} (ht:P.underlying t=some (.slice e)) (hi:P.info? e=some ti) (hz:ti.zero=some zv) (hk:ti.size=k) (hzc:zv.cells.size=k)
  (hx:bd env x=.j i n) (hy:bd env y=.j j m) (hO:∀i',sw O i (.u k e cs) i' (.u k e (cs++ds)) (f i')) (hj:sT O j (.u k T2 ds)) (hn:cs.length=n*k) (hm:ds.length=m*k) (hne:ds≠[]) (hk0:0<k) (hc1:ds.all AV.cell=true) (hb:(n+m)*ti.bytes≤140737488355328) (hb2:n+m≤140737488355328)
  (kk:∀i',ax P E ops K rest (bB env d (.j i' (n+m))) (f i')) :
  ax P E ops K (Oper.mk (some d) (.call { callee:=.builtin .append,args:=#[x,y],argTypes:=#[t,t] }) ty pos af none::rest) env O:=fun I F ρ w h1 h2=>by
 obtain ⟨htop,L,hL,hS⟩:=id h2;have h3:=h1.ev x;rw[hx] at h3;obtain ⟨b,cap,e1,ex⟩:=h3;have h4:=h1.ev y;rw[hy] at h4;obtain ⟨b4,c4,e4,ey⟩:=h4;obtain ⟨b2,c2,us2,junk,e5,hus2,hmem⟩:=hj.u hL hne;rw[e4] at e5;simp only[Option.some.injEq,Prod.mk.injEq] at e5;obtain ⟨rfl,rfl⟩:=e5;obtain ⟨j',hj'⟩:=h2.name;obtain ⟨A,B,hp,⟨b',cap',n',us,e2,hus,huc,hown⟩,hback⟩:=(hO j').rep hL;simp only at e2;rw[e1] at e2;simp only[Option.some.injEq,Prod.mk.injEq] at e2;obtain ⟨rfl,rfl⟩:=e2;have hnn:n'=n:=by
  have h5:=hown.1;have h6:=hus.length;have:n'*k=n*k:=by omega
  exact Nat.eq_of_mul_eq_mul_right hk0 this
 subst hnn;have hS2:SL I.k (A++(B++F)) E w:=hS.perm (by rw[←qv];exact (hp.append_right F).symm);have hmem2:(b2,Obj.cells (us2++junk).toArray T2 (0,0))∈A++(B++F):=by rw[←qv];exact List.mem_append_left _ (hp.mem_iff.1 hmem)
 have hsrc:NX I.k (A++(B++F)) k (some ⟨b2,0,none⟩) m us2:=⟨by rw[hus2.length,hm],hus2.cell1 hc1,.inr ⟨_,rfl,fun q u hq=>⟨b2,0,rfl,.inr ⟨_,_,_,hmem2,by
  rw[Nat.zero_add,List.getElem?_toArray,List.getElem?_append_left (List.getElem?_eq_some_iff.1 hq).1];exact hq⟩⟩⟩⟩
 refine bL.append ht hi hz hk hzc ex ey hS2 hown hsrc hb hb2 fun a' c' A' w' h5 h6 h7=>?_;have hb':∃b'',a'=adr b'':=by
  rcases h5.2.2 with ⟨e,_⟩|⟨b'',junk,e,_⟩
  ·exact ⟨none,e⟩
  exact ⟨some b'',e⟩
 obtain ⟨b'',rfl⟩:=hb';obtain ⟨J,ek,hle,e3,htop'⟩:=hj' (b'',c');obtain ⟨L',h8,h9⟩:=hback hle (A':=A') ⟨b'',c',_,us++us2,e3,RepL.mono hle _ _ (hus.append hus2),(by
  intro u hu;rcases List.mem_append.1 hu with hu|hu
  ·exact huc u hu
  exact hus2.cell1 hc1 u hu),h5⟩
 exact bL.mono (fun _ _=>dB.up hle) _ _ _ (kk j' J F _ _ ((h1.mono hle).upd d ⟨b'',c',e3,rfl⟩) ⟨htop',L',h8,by rw[ek];exact h6.perm (by rw[←qv];exact h9.append_right F)⟩)
end
section
variable {E:World} {P:Program} {ops:Array Oper} {K:aU→OL→Prop} {env:aU} {O O':OL} {rest:List Oper}
variable {d ty:Nat} {pos:String} {af:Array Edge} {x y z:Operand} {t u e:TypeId}
theorem ax.appendOZ {ti:TypeInfo} {zv:Value} {k n m i j:Nat} {T2:TypeId} {cs ds:List AV} {f:Nat→OL} (ht:P.underlying t=some (.slice e)) (hi:P.info? e=some ti) (hz:ti.zero=some zv) (hk:ti.size=k) (hzc:zv.cells.size=k)
  (hx:bd env x=.j i n) (hy:bd env y=.j j m) (hO:∀i',sw O i (.u k e cs) i' (.u k e (cs++ds)) (f i')) (hj:sT O j (.u k T2 ds)) (hn:cs.length=n*k) (hm:ds.length=m*k) (hk0:0<k) (hc1:ds.all AV.cell=true) (hb:(n+m)*ti.bytes≤140737488355328) (hb2:n+m≤140737488355328)
  (kk:∀i',ax P E ops K rest (bB env d (.j i' (n+m))) (f i')) :
  ax P E ops K (Oper.mk (some d) (.call { callee:=.builtin .append,args:=#[x,y],argTypes:=#[t,t] }) ty pos af none::rest) env O:=by
 by_cases hne:ds=[]
 ·subst hne;have hm0:m=0:=by
   have:m*k=0:=hm.symm;rcases Nat.mul_eq_zero.1 this with h|h
   ·exact h
   omega
  subst hm0;intro I F ρ w h1 h2;obtain ⟨htop,L,hL,hS⟩:=id h2;have h3:=h1.ev x;rw[hx] at h3;obtain ⟨b,cap,e1,ex⟩:=h3;have h4:=h1.ev y;rw[hy] at h4;obtain ⟨b4,c4,e4,ey⟩:=h4;obtain ⟨j',hj'⟩:=h2.name;obtain ⟨A,B,hp,⟨b',cap',n',us,e2,hus,huc,hown⟩,hback⟩:=(hO j').rep hL;simp only at e2;rw[e1] at e2;simp only[Option.some.injEq,Prod.mk.injEq] at e2;obtain ⟨rfl,rfl⟩:=e2;have hnn:n'=n:=by
   have h5:=hown.1;have h6:=hus.length;have:n'*k=n*k:=by omega
   exact Nat.eq_of_mul_eq_mul_right hk0 this
  subst hnn;have hS2:SL I.k (A++(B++F)) E w:=hS.perm (by rw[←qv];exact (hp.append_right F).symm);have hsrc:NX I.k (A++(B++F)) k (adr b4) 0 []:=⟨by simp,by simp,by cases b4 with|none=>exact .inl ⟨rfl,rfl⟩|some b4=>exact .inr ⟨_,rfl,by simp⟩⟩;refine bL.append ht hi hz hk hzc ex ey hS2 hown hsrc hb hb2 fun a' c' A' w' h5 h6 h7=>?_;have hb':∃b'',a'=adr b'':=by
   rcases h5.2.2 with ⟨e,_⟩|⟨b'',junk,e,_⟩
   ·exact ⟨none,e⟩
   exact ⟨some b'',e⟩
  obtain ⟨b'',rfl⟩:=hb';obtain ⟨J,ek,hle,e3,htop'⟩:=hj' (b'',c');obtain ⟨L',h8,h9⟩:=hback hle (A':=A') ⟨b'',c',_,us++[],e3,RepL.mono hle _ _ (hus.append rfl),(by rw[w8];exact huc),h5⟩;exact bL.mono (fun _ _=>dB.up hle) _ _ _ (kk j' J F _ _ ((h1.mono hle).upd d ⟨b'',c',e3,rfl⟩) ⟨htop',L',h8,by rw[ek];exact h6.perm (by rw[←qv];exact h9.append_right F)⟩)
 exact ax.appendO ht hi hz hk hzc hx hy hO hj hn hm hne hk0 hc1 hb hb2 kk
end
set_option linter.defProp false
def ya:=@ax.appendOZ
end
end Go.Proofs.YtbbonnfjealmpaaGreatDoor
