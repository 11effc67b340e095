/- Go's library on slices of numbers: reversed, sorted, repeated. No conditions but bounds. -/
import Derived.Test.YtbanfokidalbaaaGreatDoorJe
import Derived.Test.YtbanfokidalbaaaGreatDoorJc
import Derived.Test.YtbanfokidalbaaaGreatDoorJd
import Derived.Laws.CopyRow
import Derived.Shelf.Small.Bits
import Derived.Shelf.Small.Wraps
import Derived.Shelf.Strconv.Itoa0
import Derived.Shelf.Strconv.Itoa1
import Derived.Shelf.LaysM
import Derived.Shelf.Strconv.Itoa2
import Derived.Shelf.Strconv.Itoa3
import Derived.Shelf.Sort.Plain
import Derived.Shelf.Unicode.Props
import Derived.Shelf.Unicode.PropsLaid
import Derived.Shelf.Bits.Mul64
import Derived.Shelf.Unicode.Is16White
import Derived.Shelf.Unicode.IsSpaceAny
import Derived.Shelf.Unicode.Is16WhiteD
import Derived.Shelf.Unicode.Is16Any
import Derived.Shelf.Unicode.Is32Any
import Derived.Shelf.Unicode.ExclAny
import Derived.Shelf.Unicode.PredsAny
import Derived.Shelf.Unicode.PredsPay
import Derived.Shelf.Slices.Turned
import Derived.Shelf.Slices.Reverse
import Derived.Shelf.Slices.Equal
import Derived.Ground.Names2Prog
import Derived.Shelf.Slices.Clone
import Derived.Shelf.Slices.SearchI
import Derived.Shelf.Slices.Cells
import Derived.Shelf.Slices.In.SortNone
import Derived.Shelf.Slices.Empties2
import Derived.Ground.SlgnProg
import Derived.Shelf.SlicesE.Reverse
import Derived.Shelf.SlicesE.Clone
import Derived.Test.YtbanfokidalbaaaGreatDoorChecked
set_option linter.unusedVariables false
set_option linter.unusedSimpArgs false
set_option linter.unusedSectionVars false
namespace Go.Proofs.YtbanfokidalbaaaGreatDoor
section
open Go.Proofs.Tryz
open Go.Proofs
theorem Is:el prog 91 #[(0,1),(1,1)] [.int .i64 0,.int .i64 0]:=⟨_,_,jr,Y5,fun w=>by kernel_rfl,rfl⟩
variable {E:World}
set_option maxRecDepth 20000
theorem LW:aJ prog E 86 [] (.agg (bg Bn)):=by
 refine zo func86 Z (by decide) Z<|ah<|zy (cs:=[.int .i64 0,.int .i64 0]) Y5 Z Z<|fun i0=>z6<|ah<|za (zz (cps:=[(0,[_]),(1,[_])]) (rs:=[_,_]) Is Z Z Z)<|zq jq Z Z Z Z Z Z .head Z<|z6<|zg<|yw Z ⟨_,.head⟩ Y9 jq Z ?_
 rfl
theorem gU {t:Int} (ht:0≤t∧t≤2):aJ prog E 51 [.int .i64 t] (.agg (bg (de t))):=by
 refine zo func51 Z (by decide) Z<|ah<|zy (cs:=[.int .i64 0,.int .i64 0]) Y5 Z Z<|fun i2=>z6<|zc<|ah<|aa Z<|z6<|zh<|ah<|aj Z Z<|ac Z<|z6<|zp Z (fun c1=>?_) (fun c1=>?_)
 ·refine ah<|za (zz (cps:=[(1,[_])]) (rs:=[.int .i64 0,_]) Is Z Z Z)<|zq jq Z Z Z Z Z Z .head Z<|z6<|zg<|yw Z ⟨_,.head⟩ Y9 jq Z ?_
  rw[c1];try rfl
 ·refine ah<|aj Z Z<|ac Z<|z6<|zp Z (fun c2=>?_) (fun c2=>?_)
  ·refine ah<|za (zz (cps:=[(1,[_])]) (rs:=[.int .i64 0,_]) Is Z Z Z)<|zq jq Z Z Z Z Z Z .head Z<|z6<|zg<|yw Z ⟨_,.head⟩ Y9 jq Z ?_
   rw[c2];try rfl
  ·refine zd<|ah<|za (zz (cps:=[(0,[_]),(1,[_])]) (rs:=[_,_]) Is Z Z Z)<|zq jq Z Z Z Z Z Z .head Z<|z6<|zg<|yw Z ⟨_,.head⟩ Y9 jq Z ?_
   rw[show t=0 by omega];try rfl
theorem lO (a b:be):aJ prog E 50 [.agg (bg a),.agg (bg b)] (.agg (bg (fA a b))):=by
 refine zo func50 Z (by decide) Z<|ah<|yq (cs:=_) Z Z Z Z<|fun i2=>yb (cs:=_) Z Z Z<|zy (cs:=[.int .i64 0,.int .i64 0]) Y5 Z Z<|fun i4=>z6<|zc<|ah<|ae jr Z ji Z Z<|ax jp Z<|za (zr jr Z ji (by decide) Z Z)<|za (zw (c:=.int _ _) jp Z ⟨_,.t1⟩ Z)<|aO Z Z<|z6<|yf (γ:=Int) [2,3,4] (fun x=>[]) (fun x=>[(i4,.cells 91 [.int .i64 0,.int .i64 0]),(i2,.cells 91 [.int .i64 x,.int .i64 a.2])]) (fun x=>x=m8 a.1 b.1) ?_ (fun _ _ h=>h) ?_
 ·refine zp Z (fun c=>?_) (fun c=>?_)
  ·refine aM<|ae jr Z ji Z Z<|ax jp Z<|za (zr jr Z ji (by decide) Z Z)<|qg (l:=[_]) (new:=[_,_]) ji Z Z Z Z Z Z .t1 Z Z<|z6 ?_
   exact ⟨b.1,dC,trivial,aC,by rw[m8,if_pos c]⟩
  ·refine zd ?_
   exact ⟨a.1,dC,trivial,aC,by rw[m8,if_neg c]⟩
 ·rintro x hx
  refine zc<|ah<|ae jr Z ji Z Z<|ax jp Z<|za (zr jr Z ji (by decide) Z Z)<|za (zw (c:=.int _ _) jp Z ⟨_,.t1⟩ Z)<|aw Z Z<|z6<|yf (γ:=Int) [2,4] (fun y=>[]) (fun y=>[(i4,.cells 91 [.int .i64 0,.int .i64 0]),(i2,.cells 91 [.int .i64 x,.int .i64 y])]) (fun y=>y=m7 a.2 b.2) ?_ (fun _ _ h=>h) ?_
  ·refine zp Z (fun c=>?_) (fun c=>?_)
   ·refine aM<|ae jr Z ji Z Z<|ax jp Z<|za (zr jr Z ji (by decide) Z Z)<|qg (l:=[_]) (new:=[_,_]) ji Z Z Z Z Z Z .t1 Z Z<|z6 ?_
    exact ⟨b.2,di,trivial,aC,by rw[m7,if_pos c]⟩
   ·refine zd ?_
    exact ⟨a.2,di,trivial,aC,by rw[m7,if_neg c]⟩
  ·rintro y hy
   rw[fA,←hx,←hy,ld]
   refine zc<|ah<|za (zr jr Z ji (by decide) Z Z)<|za (zw (c:=.int _ _) jp Z ⟨_,.t1⟩ Z)<|za (zr jr Z ji (by decide) Z Z)<|za (zw (c:=.int _ _) jp Z ⟨_,.t1⟩ Z)<|aO Z Z<|z6<|zp Z (fun c=>?_) (fun c=>?_)
   ·refine ah<|ze (LW) Z<|zq jq Z Z Z Z Z Z .head Z<|z6<|zg<|yw Z ⟨_,.head⟩ Y9 jq Z ?_
    rw[if_pos c];try rfl
   ·refine zd<|ah<|za (q8 Y9 jq Z ⟨_,.t1⟩ Z)<|zq jq Z Z Z Z Z Z .head Z<|z6<|zg<|yw Z ⟨_,.head⟩ Y9 jq Z ?_
    rw[if_neg c];try rfl
theorem re {k:Nat} (hk:k≤2) {x y:Int} (hx:aP x) (hy:aP y):aJ prog E 89 [.int .i64 k,.int .i64 x,.int .i64 y] (.bool (decide (dk k x y))):=by
 have hx1:=hx;have hy1:=hy
 unfold aP at hx1 hy1
 refine zo func89 Z (by decide) Z<|ah<|ac Z<|z6<|zc<|ah<|aa Z<|z6<|zh<|ah<|aj Z Z<|ac Z<|z6<|zp Z (fun c0=>?_) (fun c0=>?_)
 ·have hk0:k=0:=by omega
  subst hk0
  refine ah<|aa Z<|aO Z Z<|ai Z<|zm (s:=16) Z (fun c1=>?_) (fun c1=>?_)
  ·refine z8 Z Z c1<|aa Z<|z8 Z Z c1<|aa Z<|z8 Z Z c1<|za (Gv.sub Z Z (by unfold nN;simp at *;omega))<|z8 Z Z c1<|aO Z Z<|ap Z c1 Z<|aF Z<|ai Z<|zm (s:=23) Z (fun c2=>?_) (fun c2=>?_)
   ·refine z8 Z Z c2<|aa Z<|z8 Z Z c2<|aw Z Z<|z8 Z Z c2<|ai Z<|zm (s:=26) Z (fun c3=>?_) (fun c3=>?_)
    ·refine z8 Z Z c3<|aa Z<|z8 Z Z c3<|aa Z<|z8 Z Z c3<|za (Gv.sub Z Z (by unfold nN;simp at *;omega))<|z8 Z Z c3<|aw Z Z<|z8 Z Z c2<|ap Z c3 Z<|z8 Z Z c2<|aF Z<|ap Z c2 Z<|ac Z<|z6<|zg<|zk (x:=.bool _) Z ?_
     exact jb (by rw[qz];unfold dk tv aP;simp at *<;>omega)
    ·refine z7 Z Z c3<|z7 Z Z c3<|z7 Z Z c3<|z7 Z Z c3<|z8 Z Z c2<|aq Z c3 Z<|z8 Z Z c2<|aF Z<|ap Z c2 Z<|ac Z<|z6<|zg<|zk (x:=.bool _) Z ?_
     exact jb (by rw[qz];unfold dk tv aP;simp at *<;>omega)
   ·refine z7 Z Z c2<|z7 Z Z c2<|z7 Z Z c2<|zb Z Z<|zb Z Z<|zb Z Z<|zb Z Z<|z7 Z Z c2<|z7 Z Z c2<|aq Z c2 Z<|ac Z<|z6<|zg<|zk (x:=.bool _) Z ?_
    exact jb (by rw[qz];unfold dk tv aP;simp at *<;>omega)
  ·refine z7 Z Z c1<|z7 Z Z c1<|z7 Z Z c1<|z7 Z Z c1<|aq Z c1 Z<|aF Z<|ai Z<|z8 Z Z Z<|aa Z<|z8 Z Z Z<|aw Z Z<|z8 Z Z Z<|ai Z<|zm (s:=26) Z (fun c4=>?_) (fun c4=>?_)
   ·refine z8 Z Z c4<|aa Z<|z8 Z Z c4<|aa Z<|z8 Z Z c4<|za (Gv.sub Z Z (by unfold nN;simp at *;omega))<|z8 Z Z c4<|aw Z Z<|z8 Z Z Z<|ap Z c4 Z<|z8 Z Z Z<|aF Z<|ap Z Z Z<|ac Z<|z6<|zg<|zk (x:=.bool _) Z ?_
    exact jb (by rw[qz];unfold dk tv aP;simp at *<;>omega)
   ·refine z7 Z Z c4<|z7 Z Z c4<|z7 Z Z c4<|z7 Z Z c4<|z8 Z Z Z<|aq Z c4 Z<|z8 Z Z Z<|aF Z<|ap Z Z Z<|ac Z<|z6<|zg<|zk (x:=.bool _) Z ?_
    exact jb (by rw[qz];unfold dk tv aP;simp at *<;>omega)
 ·refine ah<|aj Z Z<|ac Z<|z6<|zp Z (fun c1=>?_) (fun c1=>?_)
  ·have hk1:k=1:=by omega
   subst hk1
   refine ah<|aa Z<|aw Z Z<|ai Z<|zm (s:=38) Z (fun c5=>?_) (fun c5=>?_)
   ·refine z8 Z Z c5<|aa Z<|z8 Z Z c5<|aa Z<|z8 Z Z c5<|za (Gv.add Z Z (by unfold nN;simp at *;omega))<|z8 Z Z c5<|aO Z Z<|ap Z c5 Z<|aF Z<|ai Z<|zm (s:=45) Z (fun c6=>?_) (fun c6=>?_)
    ·refine z8 Z Z c6<|aa Z<|z8 Z Z c6<|aO Z Z<|z8 Z Z c6<|ai Z<|zm (s:=48) Z (fun c7=>?_) (fun c7=>?_)
     ·refine z8 Z Z c7<|aa Z<|z8 Z Z c7<|aa Z<|z8 Z Z c7<|za (Gv.add Z Z (by unfold nN;simp at *;omega))<|z8 Z Z c7<|aw Z Z<|z8 Z Z c6<|ap Z c7 Z<|z8 Z Z c6<|aF Z<|ap Z c6 Z<|ac Z<|z6<|zg<|zk (x:=.bool _) Z ?_
      exact jb (by rw[qz];unfold dk tv aP;simp at *<;>omega)
     ·refine z7 Z Z c7<|z7 Z Z c7<|z7 Z Z c7<|z7 Z Z c7<|z8 Z Z c6<|aq Z c7 Z<|z8 Z Z c6<|aF Z<|ap Z c6 Z<|ac Z<|z6<|zg<|zk (x:=.bool _) Z ?_
      exact jb (by rw[qz];unfold dk tv aP;simp at *<;>omega)
    ·refine z7 Z Z c6<|z7 Z Z c6<|z7 Z Z c6<|zb Z Z<|zb Z Z<|zb Z Z<|zb Z Z<|z7 Z Z c6<|z7 Z Z c6<|aq Z c6 Z<|ac Z<|z6<|zg<|zk (x:=.bool _) Z ?_
     exact jb (by rw[qz];unfold dk tv aP;simp at *<;>omega)
   ·refine z7 Z Z c5<|z7 Z Z c5<|z7 Z Z c5<|z7 Z Z c5<|aq Z c5 Z<|aF Z<|ai Z<|z8 Z Z Z<|aa Z<|z8 Z Z Z<|aO Z Z<|z8 Z Z Z<|ai Z<|zm (s:=48) Z (fun c8=>?_) (fun c8=>?_)
    ·refine z8 Z Z c8<|aa Z<|z8 Z Z c8<|aa Z<|z8 Z Z c8<|za (Gv.add Z Z (by unfold nN;simp at *;omega))<|z8 Z Z c8<|aw Z Z<|z8 Z Z Z<|ap Z c8 Z<|z8 Z Z Z<|aF Z<|ap Z Z Z<|ac Z<|z6<|zg<|zk (x:=.bool _) Z ?_
     exact jb (by rw[qz];unfold dk tv aP;simp at *<;>omega)
    ·refine z7 Z Z c8<|z7 Z Z c8<|z7 Z Z c8<|z7 Z Z c8<|z8 Z Z Z<|aq Z c8 Z<|z8 Z Z Z<|aF Z<|ap Z Z Z<|ac Z<|z6<|zg<|zk (x:=.bool _) Z ?_
     exact jb (by rw[qz];unfold dk tv aP;simp at *<;>omega)
  ·have hk2:k=2:=by omega
   subst hk2
   refine zd<|zc<|zc<|yf (γ:=Bool) [1,2] (fun u=>[(61,.bool u)]) (fun u=>[]) (fun u=>u=decide (x=0∨y=0)) ?_ (fun _ _ h=>h) ?_
   ·refine aM<|aa Z<|aj Z Z<|ai Z<|zm (s:=58) Z (fun c9=>?_) (fun c9=>?_)
    ·refine z7 Z Z c9<|z7 Z Z c9<|ap Z c9 Z<|z6 ?_
     exact ⟨_,di,aG,aC,by simp_all⟩
    ·refine z8 Z Z c9<|aa Z<|z8 Z Z c9<|aj Z Z<|aq Z c9 Z<|z6 ?_
     exact ⟨_,di,aG,aC,by simp_all⟩
   ·rintro u hu
    subst hu
    refine zp Z (fun cz=>?_) (fun cz=>?_)
    ·refine ah<|ac Z<|z6<|zg<|zk (x:=.bool _) Z ?_
     exact jb (by rw[w7];unfold dk;rw[show tv 2 x y=x*y from rfl];rcases cz with h|h<;>rw[h]<;>simp[aP])
    ·have hx0:x≠0:=fun e=>cz (.inl e)
     have hy0:y≠0:=fun e=>cz (.inr e)
     refine zd<|ah<|aa Z<|aw Z Z<|aa Z<|aw Z Z<|za (Gv.eqlB Zv Z Z)<|ac Z<|z6<|ah<|aa Z<|za (Gv.conv X7 Yp Z)<|aa Z<|za (Gv.conv X7 Yp Z)<|ay Z<|ay Z<|z6<|zc<|ah<|aa Z<|aw Z Z<|z6<|yf (γ:=Int) [2,7,9] (fun u=>[(8,.int .u64 u)]) (fun u=>[]) (fun u=>u=(x.natAbs:Int)) ?_ (fun _ _ h=>h) ?_
     ·refine zp Z (fun c=>?_) (fun c=>?_)
      ·refine aM<|aa Z<|za (Gv.neg Z)<|ay Z<|z6 ?_
       exact ⟨_,dC,aG,aC,by have:=lm hx;rwa [if_pos c] at this⟩
      ·refine zd ?_
       exact ⟨_,dC,aG,aC,by have:=lm hx;rwa [if_neg c] at this⟩
     ·rintro u hu
      subst hu
      refine zc<|ah<|aa Z<|aw Z Z<|z6<|yf (γ:=Int) [7,8] (fun u=>[(9,.int .u64 u)]) (fun u=>[]) (fun u=>u=(y.natAbs:Int)) ?_ (fun _ _ h=>h) ?_
      ·refine zp Z (fun c=>?_) (fun c=>?_)
       ·refine aM<|aa Z<|za (Gv.neg Z)<|ay Z<|z6 ?_
        exact ⟨_,di,aG,aC,by have:=lm hy;rwa [if_pos c] at this⟩
       ·refine zd ?_
        exact ⟨_,di,aG,aC,by have:=lm hy;rwa [if_neg c] at this⟩
      ·rintro u hu
       subst hu
       refine ah<|ay Z<|z6<|zc<|ah<|ai Z<|aF Z<|z6<|yf (γ:=Int) [8,9] (fun u=>[(10,.int .u64 u)]) (fun u=>[]) (fun u=>u=(if (decide (x<0) == decide (y<0))=true then 9223372036854775807 else 9223372036854775808)) ?_ (fun _ _ h=>h) ?_
       ·refine zt Z (fun c=>?_) (fun c=>?_)
        ·refine aM<|ay Z<|z6 ?_
         exact ⟨_,di,aG,aC,by rw[if_neg (by simpa using c)]⟩
        ·refine zd ?_
         exact ⟨_,di,aG,aC,by rw[if_pos (by simpa using c)]⟩
       ·rintro u hu
        subst hu
        refine ah<|aa Z<|aa Z<|aa Z<|za (Gv.quo Z Z (by omega))<|za (Gv.leq Z Z)<|ac Z<|z6<|zg<|zk (x:=.bool _) Z ?_
        exact jb (Nj hx hx0 hy0)
theorem LX {k:Nat} (hk:k≤2) {a b:be} (ha:cY a) (hb:cY b):aJ prog E 88 [.int .i64 k,.agg (bg a),.agg (bg b)] (.bool (decide (jA k a b))):=by
 refine zo func88 Z (by decide) Z<|ah<|yb (cs:=_) Z Z Z<|yb (cs:=_) Z Z Z<|ac Z<|z6<|ah<|aa Z<|ae jr Z ji Z Z<|ax jp Z<|ae jr Z ji Z Z<|ax jp Z<|ze (re hk ha.1 hb.1) Z<|ai Z<|zm (s:=13) Z (fun c10=>?_) (fun c10=>?_)
 ·refine z8 Z Z c10<|aa Z<|z8 Z Z c10<|ae jr Z ji Z Z<|z8 Z Z c10<|ax jp Z<|z8 Z Z c10<|ae jr Z ji Z Z<|z8 Z Z c10<|ax jp Z<|z8 Z Z c10<|ze (re hk ha.1 hb.2) Z<|ap Z c10 Z<|ai Z<|zm (s:=21) Z (fun c11=>?_) (fun c11=>?_)
  ·refine z8 Z Z c11<|aa Z<|z8 Z Z c11<|ae jr Z ji Z Z<|z8 Z Z c11<|ax jp Z<|z8 Z Z c11<|ae jr Z ji Z Z<|z8 Z Z c11<|ax jp Z<|z8 Z Z c11<|ze (re hk ha.2 hb.1) Z<|ap Z c11 Z<|ai Z<|zm (s:=29) Z (fun c12=>?_) (fun c12=>?_)
   ·refine z8 Z Z c12<|aa Z<|z8 Z Z c12<|ae jr Z ji Z Z<|z8 Z Z c12<|ax jp Z<|z8 Z Z c12<|ae jr Z ji Z Z<|z8 Z Z c12<|ax jp Z<|z8 Z Z c12<|ze (re hk ha.2 hb.2) Z<|ap Z c12 Z<|ac Z<|z6<|zg<|zk (x:=.bool _) Z ?_
    exact jb (by unfold jA;simp_all)
   ·refine z7 Z Z c12<|z7 Z Z c12<|z7 Z Z c12<|z7 Z Z c12<|z7 Z Z c12<|z7 Z Z c12<|aq Z c12 Z<|ac Z<|z6<|zg<|zk (x:=.bool _) Z ?_
    exact jb (by unfold jA;simp_all)
  ·refine z7 Z Z c11<|z7 Z Z c11<|z7 Z Z c11<|z7 Z Z c11<|z7 Z Z c11<|z7 Z Z c11<|aq Z c11 Z<|ai Z<|z7 Z Z Z<|z7 Z Z Z<|z7 Z Z Z<|z7 Z Z Z<|z7 Z Z Z<|z7 Z Z Z<|aq Z Z Z<|ac Z<|z6<|zg<|zk (x:=.bool _) Z ?_
   exact jb (by unfold jA;simp_all)
 ·refine z7 Z Z c10<|z7 Z Z c10<|z7 Z Z c10<|z7 Z Z c10<|z7 Z Z c10<|z7 Z Z c10<|aq Z c10 Z<|ai Z<|z7 Z Z Z<|z7 Z Z Z<|z7 Z Z Z<|z7 Z Z Z<|z7 Z Z Z<|z7 Z Z Z<|aq Z Z Z<|ai Z<|z7 Z Z Z<|z7 Z Z Z<|z7 Z Z Z<|z7 Z Z Z<|z7 Z Z Z<|z7 Z Z Z<|aq Z Z Z<|ac Z<|z6<|zg<|zk (x:=.bool _) Z ?_
  exact jb (by unfold jA;simp_all)
end
section
open Go.Proofs.Tryz
open Go.Proofs
theorem cZ:dM prog 23 3 1 1 [.int .i64 0]:=⟨_,j9,ja,X2,by decide,by decide,by kernel_rfl⟩
theorem Ky:dM prog 23 3 2 1 [.int .i64 0,.int .i64 0]:=⟨_,j9,ja,X2,by decide,by decide,by kernel_rfl⟩
variable {E:World}
set_option maxRecDepth 20000
theorem Kz {t:gA} (h:t.kind=0):cX t=[t.to0]:=by unfold cX;rw[if_pos h]
theorem KA {t:gA} (h:t.kind=1) (e:t.to0=t.to1):cX t=[t.to0]:=by unfold cX;rw[if_neg (by omega),if_pos h,if_pos e]
theorem KB {t:gA} (h:t.kind=1) (e:¬t.to0=t.to1):cX t=[t.to0,t.to1]:=by unfold cX;rw[if_neg (by omega),if_pos h,if_neg e]
theorem KC {t:gA} (h0:¬t.kind=0) (h:¬t.kind=1):cX t=[]:=by unfold cX;rw[if_neg h0,if_neg h]
theorem tF (t:gA):aJ prog E 151 [.agg (pp t)] (.fro 1 ((cX t).map fa)):=by
 refine zo func151 Z (by decide) Z<|ah<|yb (cs:=_) Z Z Z<|bV Z<|z6<|zc<|zh<|zc<|ah<|ae jj Z Yg Z Z<|ax Ys Z<|aj Z Z<|ac Z<|z6<|zp Z (fun c0=>?_) (fun c0=>?_)
 ·refine zd<|yt Z (by simpa using c0)<|ah<|ae jj Z Zk Z Z<|za (yp (j:=0) Z4 ja Z Z Z (by decide) Z)<|ax jc Z<|y8 (rows:=[[_]]) cZ Z Z Z Z Z<|za (iw Z)<|z6<|zg<|zk (x:=.fro _ _) Z ?_
  rw[Kz c0];rfl
 ·refine aM<|ae jj Z Yg Z Z<|ax Ys Z<|aj Z Z<|ai Z<|zm (s:=10) Z (fun c1=>?_) (fun c1=>?_)
  ·refine z8 Z Z c1<|ae jj Z Zk Z Z<|z8 Z Z c1<|za (yp (j:=0) Z4 ja Z Z Z (by decide) Z)<|z8 Z Z c1<|ax jc Z<|z8 Z Z c1<|ae jj Z Zk Z Z<|z8 Z Z c1<|za (yp (j:=1) Z4 ja Z Z Z (by decide) Z)<|z8 Z Z c1<|ax jc Z<|z8 Z Z c1<|aj Z Z<|ap Z c1 Z<|ac Z<|z6<|zt Z (fun c2=>?_) (fun c2=>?_)
   ·refine ah<|ae jj Z Zk Z Z<|za (yp (j:=0) Z4 ja Z Z Z (by decide) Z)<|ax jc Z<|y8 (rows:=[[_]]) cZ Z Z Z Z Z<|za (iw Z)<|z6<|zg<|zk (x:=.fro _ _) Z ?_
    rw[KA (by simpa using c1) (by simpa using c2)];rfl
   ·refine ah<|ae jj Z Yg Z Z<|ax Ys Z<|aj Z Z<|ac Z<|z6<|yt Z (by simpa using c1)<|ah<|ae jj Z Zk Z Z<|za (yp (j:=0) Z4 ja Z Z Z (by decide) Z)<|ax jc Z<|ae jj Z Zk Z Z<|za (yp (j:=1) Z4 ja Z Z Z (by decide) Z)<|ax jc Z<|y8 (rows:=[[_],[_]]) Ky Z Z Z Z Z<|za (iw Z)<|z6<|zg<|zk (x:=.fro _ _) Z ?_
    rw[KB (by simpa using c1) (by simpa using c2)];rfl
  ·refine z7 Z Z c1<|z7 Z Z c1<|z7 Z Z c1<|z7 Z Z c1<|z7 Z Z c1<|z7 Z Z c1<|z7 Z Z c1<|aq Z c1 Z<|ac Z<|z6<|yj Z Z<|ah<|ae jj Z Yg Z Z<|ax Ys Z<|aj Z Z<|ac Z<|z6<|yj Z (by simpa using c1)<|zd<|ah<|bV Z<|z6<|zg ?_
   repeat (first|refine br ?_|refine aZ ?_)
   refine aK.fin (qc (t:=2) Z (Kr 1))<|zk (x:=.fro _ _) Z ?_
   rw[KC (by simpa using c0) (by simpa using c1)];rfl
def nk (rows:List (List Int)) (c x:Int):List (List Int):=rows.set c.toNat ((rows[c.toNat]?).getD []++[x])
def fN (rows:List (List Int)) (cs:List Int) (x:Int):List (List Int):=cs.foldl (fun r c=>nk r c x) rows
theorem rg (cs:List Int) (x:Int):∀rows,(fN rows cs x).length=rows.length:=by
 induction cs with
 |nil=>intro rows;rfl
 |cons c cs ih=>intro rows;show (fN (nk rows c x) cs x).length=_;rw[ih];unfold nk;simp
theorem wh (rows:List (List Int)) (cs:List Int) (c x:Int):fN rows (cs++[c]) x=nk (fN rows cs x) c x:=by unfold fN;rw[List.foldl_append];rfl
theorem Dx {rows:List (List Int)} {c x:Int} (h0:0≤c) (b:Nat):(nk rows c x)[b]?=(rows[b]?).map (·++if c=(b:Int) then[x] else[]):=by
 unfold nk
 rw[List.getElem?_set]
 by_cases e:c.toNat=b
 ·have:c=(b:Int):=by omega
  rw[if_pos e,if_pos this,e]
  by_cases hb:b<rows.length
  ·rw[if_pos hb,qq hb];rfl
  ·rw[if_neg hb,List.getElem?_eq_none (by omega)];rfl
 ·have:¬c=(b:Int):=by omega
  rw[if_neg e,if_neg this];simp
theorem mD (x:Int) (b:Nat):∀(cs:List Int) (rows:List (List Int)),(∀c∈cs,0≤c)→(fN rows cs x)[b]?=(rows[b]?).map (·++(cs.filter fun c=>decide (c=(b:Int))).map fun _=>x)
 |[],rows,_=>by simp[fN]
 |c::cs,rows,h=>by
  show (fN (nk rows c x) cs x)[b]?=_
  rw[mD x b cs _ (fun c hc=>h c (List.mem_cons_of_mem _ hc)),Dx (h c (List.mem_cons_self ..))]
  cases rows[b]? with
  |none=>rfl
  |some r=>
   by_cases e:c=(b:Int)
   ·simp[e]
   ·simp[e]
def da (f:ad) (k:Nat):List (List Int):=(List.range f.blocks.length).map fun (b:Nat)=>bv (ao f) k (b:Int)
theorem gk (f:ad) (k:Nat):(da f k).length=f.blocks.length:=by unfold da;simp
theorem wi (f:ad):List.replicate f.blocks.length []=da f 0:=by
 apply List.ext_getElem
 ·rw[gk];simp
 ·intro i h1 h2
  unfold da bv d5
  simp
theorem ln (E:Int→List Int) (k:Nat) (b:Int):bv E (k+1) b=bv E k b++((E k).filter fun c=>decide (c=b)).map fun _=>(k:Int):=by
 unfold bv;rw[oy,List.flatMap_append];simp
theorem wj {f:ad} {k:Nat} (h0:∀c∈ao f k,0≤c):fN (da f k) (ao f k) k=da f (k+1):=by
 apply List.ext_getElem?
 intro b
 rw[mD _ _ _ _ h0]
 by_cases hb:b<f.blocks.length
 ·unfold da
  rw[qy,qy,List.getElem?_range hb]
  simp only[Option.map_some]
  rw[ln]
 ·rw[List.getElem?_eq_none (by rw[gk];omega),List.getElem?_eq_none (by rw[gk];omega)];rfl
theorem FW {rows:List (List Int)} {c x:Int} (h:c.toNat<rows.length):rows.set c.toNat (rows[c.toNat]++[x])=nk rows c x:=by
 unfold nk;rw[qq h];rfl
theorem iD (f:ad) (b:Int):∀k,(bv (ao f) k b).length≤2*k
 |0=>by simp[bv,d5]
 |k+1=>by
  have h1:=iD f b k
  have h2:=pY f k
  have h3:=List.length_filter_le (fun c=>decide (c=b)) (ao f k)
  rw[ln,qw,qx]
  omega
theorem It {f:ad} {k b:Nat} {cs:List Int} {x:Int} (h0:∀c∈cs,0≤c) (hb:b<(fN (da f k) cs x).length):(fN (da f k) cs x)[b].length≤2*k+cs.length:=by
 have hb2:b<f.blocks.length:=by rwa [rg,gk] at hb
 have h:=mD x b cs (da f k) h0
 have hr:(da f k)[b]?=some (bv (ao f) k (b:Int)):=by unfold da;rw[qy,List.getElem?_range hb2];rfl
 rw[qq hb,hr] at h
 have h:(fN (da f k) cs x)[b]=bv (ao f) k (b:Int)++(cs.filter fun c=>decide (c=(b:Int))).map fun _=>x:=by simpa using h
 have h2:=iD f b k
 have h3:=List.length_filter_le (fun c=>decide (c=(b:Int))) cs
 rw[h,qw,qx]
 omega
theorem rh (f:ad) (hE:bF f) (hn:f.blocks.length≤100000):aJ prog E 115 [.agg (bL f)] (oY eI (da f f.blocks.length)):=by
 refine zo func115 Z (by decide) Z<|ah<|yb (cs:=_) Z Z Z<|bV Z<|z6<|ah<|ae je Z Ze Z Z<|aI Zl Z<|ak jk Z<|ye (m:=f.blocks.length) jf Zh Z Z Z Z Z (by simp) (by simp) (by show (24:Int)*_≤_;omega) (by omega) eI 3<|fun b11=>za (yi (v:=dn _ _) Z)<|z6<|zc<|ah<|ae je Z Ze Z Z<|aI Zl Z<|ak jk Z<|aa Z<|z6<|zh<|ya (γ:=Nat) [3,13,14] (fun k=>[(15,.int .i64 k)]) (fun k=>[(0,cJ eI 23 3 b11 (da f k))]) (fun k=>k≤f.blocks.length) (fun k=>f.blocks.length - k) 0 aG ⟨_,(.refl _),by rw[wi]⟩ (qt _) ?_
 rintro k hk
 refine ah<|aw Z Z<|z6<|zc<|zp Z (fun ck=>?_) (fun ck=>?_)
 ·have hk2:k<f.blocks.length:=by simp at ck;omega
  have hEk:ao f k=cX f.blocks[k].term:=zJ hk2
  have hlen:=tk f.blocks[k].term
  have hrng:=hE.rng _ (qu hk2)
  refine zd<|zc<|zh<|ah<|aa Z<|za (bD k jk jv Z Z Z (qq hk2))<|ab Yk jv Z Z<|zy (cs:=[.str ⟨#[]⟩,.raw (.slice none 0 0),.raw (.slice none 0 0),.int .i64 0,.int .i64 0,.int .i64 0,.int .i64 0]) Zn Z Z<|fun i5=>ay Z<|zq jv Z Z Z Z Z Z .head Z<|z6<|ah<|za (zr jl Z Ya (by decide) Z Z)<|za (Gv.loadAC (l:=[_,_,_,_]) isAgg49 Ya Z ⟨_,.head⟩ Z Z)<|ze (tF _) Z<|ak j9 Z<|aa Z<|z6<|zh<|ya (γ:=Nat) [3,4,13,14,15,22,23] (fun j=>[(24,.int .i64 j)]) (fun j=>[(0,cJ eI 23 3 b11 (fN (da f k) ((cX f.blocks[k].term).take j) k))]) (fun j=>j≤(cX f.blocks[k].term).length) (fun j=>(cX f.blocks[k].term).length - j) 0 aG ⟨_,(.drop (.refl _)),Z⟩ (qt _) ?_
  rintro j hj
  refine ah<|aw Z Z<|z6<|zc<|zp Z (fun cj=>?_) (fun cj=>?_)
  ·have hj2:j<(cX f.blocks[k].term).length:=by simp at cj;omega
   obtain ⟨c,hc⟩:∃c,(cX f.blocks[k].term)[j]=c:=⟨_,rfl⟩
   have hr:=hrng c (hc▸qu hj2)
   obtain ⟨rows,hrows⟩:∃rows,fN (da f k) ((cX f.blocks[k].term).take j) k=rows:=⟨_,rfl⟩
   have hrl:rows.length=f.blocks.length:=by rw[←hrows,rg,gk]
   have hcn:c.toNat<rows.length:=by omega
   have hrow:rows[c.toNat].length≤200002:=by
    have:=It (f:=f) (k:=k) (b:=c.toNat) (cs:=(cX f.blocks[k].term).take j) (x:=k) (fun c hc=>(hrng c (List.mem_of_mem_take hc)).1) (by rw[hrows];exact hcn)
    simp only[hrows,w6] at this
    omega
   rw[hrows]
   refine zd<|zc<|zh<|ah<|za (bD j j9 ja Z Z Z (by rw[qq hj2,hc])) ?_
   refine ax jc Z<|ay Z<|z6<|aM<|za (yl (v:=dn _ _) Z)<|aa Z<|za (yl (v:=dn _ _) Z)<|aa Z<|za (qe (j:=c.toNat) jf jg Z Z (by omega) (by omega))<|q5 (j:=c.toNat) (r:=rows[c.toNat]) jn Z (qq hcn) (fun _=>.head)<|fun i33=>aa Z<|y8 (rows:=[[_]]) cZ Z Z Z Z Z<|yn (k:=1) j9 type3 Z Z Z Z Z (fun _=>.head) (by rw[eI.av_len];rfl) (by decide) Z (by show (_+1)*8≤_;omega) (by show _+1≤_;omega)<|fun i36=>za (qe (j:=c.toNat) jf jg Z Z (by omega) (by omega))<|qf (j:=c.toNat) (r:=rows[c.toNat]++[(k:Int)]) jg Z Z (by omega) .head .head Z (eI.av_push _ _) (by simp)<|z6<|aM<|aA Z Z<|aa Z<|z6 ?_
   exact ⟨j+1,km,aG,⟨_,(.refl _),by rw[qr hj2,wh,hrows,hc,FW hcn]⟩,hj2,by omega⟩
  ·have hjn:j=(cX f.blocks[k].term).length:=by simp at cj;omega
   refine y9<|aM<|aA Z Z<|aa Z<|z6 ?_
   exact ⟨k+1,dC,aG,⟨_,(.refl _),by rw[hjn,qv,←hEk,wj (fun c hc=>(hrng c (hEk▸hc)).1)]⟩,hk2,by omega⟩
 ·have hkn:k=f.blocks.length:=by simp at ck;omega
  subst hkn
  refine yg (aK.nestKnow (s:=3) Z .head (gk f _))<|y9<|ah<|aU Z<|za (iw Z)<|z6<|zg<|zk (x:=.fro _ _) Z ?_
  rfl
end
section
open Go.Proofs.Tryz
open Go.Proofs
theorem JM:el prog 239 #[(0,1),(1,1)] [.int .i64 0,.int .i64 0]:=⟨_,_,X5,zeroValue239,fun w=>by kernel_rfl,rfl⟩
theorem BD:dM prog 240 239 1 2 [.int .i64 0,.int .i64 0]:=⟨_,Yx,sizeOf239,zeroValue239,by decide,by decide,by kernel_rfl⟩
variable {E:World}
set_option maxRecDepth 20000
def Lq (r:List (Int × Nat)):List AV:=(r.reverse.map fun q=>[AV.int .i64 q.1,AV.int .i64 (q.2:Int)]).flatten
theorem lp (b:Int) (k:Nat) (r:List (Int × Nat)):Lq ((b,k)::r)=Lq r++[AV.int .i64 b,AV.int .i64 (k:Int)]:=by unfold Lq;simp
theorem uI (r:List (Int × Nat)):(Lq r).length=r.length*2:=by
 induction r with
 |nil=>rfl
 |cons q r ih=>obtain ⟨b,k⟩:=q;rw[lp,qw,ih];simp only[List.length_cons,List.length_nil];omega
theorem FX {f:ad} {n k:Nat} (hE:EOk (ao f) n):(eS (ao f) n k).2.1.length+(eS (ao f) n k).2.2.length≤n:=by
 have h:=e8 hE k
 have h2:=lD _ (d5 n) h.nodup fun x hx=>ii.2 (h.rng x hx)
 rw[fq,qw,qx] at h2
 exact h2
theorem Ab (f:ad) (hE:bF f) (hn:f.blocks.length≤100000) (hrev:∀(l:List Int) (i:Nat) (T:TypeId),l.length≤200000→ba prog E 152 [.own i l.length] [(i,.grow 1 T (cI l))] fun r O=>r=.tup []∧O=[(i,.grow 1 T (cI l.reverse))]) :
  aJ prog E 114 [.agg (bL f)] (.fro 1 ((aD (ao f) f.blocks.length).map fa)):=by
 have hG:=hE.grph
 have hpos:=hG.npos
 refine zo func114 Z (by decide) Z<|ah<|yb (cs:=_) Z Z Z<|bV Z<|z6<|ah<|ae je Z Ze Z Z<|aI Zl Z<|ak jk Z<|az.makeB (m:=f.blocks.length) Za type4 Z Z Z Z Z (by simp) (by simp) (by show (1:Int)*_≤_;omega) (by omega)<|fun i12=>bM Z<|z6<|ah<|bw Z<|za (q0 (j:=0) Za Z5 Z Z Z ⟨_,.head⟩ (by first|rfl|(simp[bf,bd];done)|(simp[bf,bd];omega)) hG.npos)<|az.storeB (j:=0) Z5 Z Z .head (by first|omega|(simp;omega))<|z6<|ah<|bV Z<|z6<|ah<|za (zz (cps:=[(0,[_]),(1,[_])]) (rs:=[_,_]) JM Z Z Z)<|az.buildSliceO (cps:=[(0,[_,_])]) (rs:=[_,_]) BD Z Z Z Z Z<|fun i16=>bM Z<|z6<|dh (t:=4) (k:=1) (T:=3) Z<|fun i4=>yg (zi (zj .t1))<|zc<|zh<|ya (γ:=Nat × Nat × Nat) [1,3] (fun g=>[(4,.own g.2.1 (eS (ao f) f.blocks.length g.1).2.1.length),(5,.own g.2.2 (eS (ao f) f.blocks.length g.1).2.2.length)]) (fun g=>[(g.2.2,.grow 2 239 (Lq (eS (ao f) f.blocks.length g.1).2.2)),(g.2.1,.grow 1 3 (cI (eS (ao f) f.blocks.length g.1).2.1)),(i12,.grow 1 4 (cB (eS (ao f) f.blocks.length g.1).1))]) (fun g=>g.1≤4*f.blocks.length∧(eS (ao f) f.blocks.length g.1).1.length=f.blocks.length) (fun g=>mS (eS (ao f) f.blocks.length g.1)) (0,i4,i16) di aC (⟨qt _,by simp[eS,pP]⟩) ?_
 rintro ⟨k,io,il⟩ ⟨hk,hsl⟩
 try dsimp only at *
 have hI:=e8 hG.toEOk k
 have hlen:=FX (k:=k) hG.toEOk
 have hlt:=pQ hG.toEOk k
 have hstep:eS (ao f) f.blocks.length (k+1)=tc (ao f) (eS (ao f) f.blocks.length k):=rfl
 rcases hx:eS (ao f) f.blocks.length k with ⟨seen,out,st⟩
 rw[hx] at hI hlen hlt hstep hsl
 dsimp only at hlen hlt hsl
 cases st with
 |nil=>
 ·refine zc<|ah<|bw Z<|za (Gv.lenO Yx Z)<|aO Z Z<|z6<|yj Z (by simp) ?_
  have hfin:=C3 (E:=ao f) (n:=f.blocks.length) (k:=k) (by rw[hx]) hk
  refine y9<|ah<|bw Z<|zu Z (zn (.r (.l (.r (.rest _))))) (hrev out io 3 (by omega)) ?_
  rintro r82 O82 ⟨rfl,rfl⟩
  refine z6<|yg (aK.knowI (t:=4) Z .head (by simp))<|ah<|aU Z<|za (iw Z)<|z6<|zg<|zk (x:=.fro _ _) Z ?_
  unfold aD;rw[hfin,hx];rfl
  |cons q r=>
 ·obtain ⟨b,j⟩:=q
  have hbr:=hI.rng b (by simp)
  have hbl:b.toNat<f.blocks.length:=by omega
  have hEb:ao f b=cX f.blocks[b.toNat].term:=mn hbr.1 hbl
  have hjl:=(hI.part (b,j) (by simp)).1
  dsimp only at hjl
  have hmn:mS (eS (ao f) f.blocks.length (k+1))<mS (eS (ao f) f.blocks.length k):=by rw[hstep,hx];exact sy.less hG.toEOk hI (by simp)
  have hk2:k+1≤4*f.blocks.length:=by simp at hlt;omega
  have hsn:(eS (ao f) f.blocks.length (k+1)).1.length=f.blocks.length:=(e8 hG.toEOk (k+1)).len
  rw[mc] at hstep
  rw[hx] at hmn
  rw[lp]
  simp only[List.length_cons] at hlen ⊢
  refine zc<|ah<|bw Z<|za (Gv.lenO Yx Z)<|aO Z Z<|z6<|yt Z (by simp)<|zd<|zh<|ah<|bw Z<|bw Z<|za (Gv.lenO Yx Z)<|za (Gv.sub Z Z (by unfold nN;show _∧((r.length+1:Nat):Int) - 1≤_;omega))<|za (Gv.idxOL (j:=r.length) Yx sizeOf239 Z Z (by show ((r.length+1:Nat):Int) - 1=_;omega) ⟨_,.head⟩ (by simp) (by show r.length<r.length+1;omega) (show r.length*2=(Lq r).length by rw[uI]))<|za (iQ Z)<|z6<|zc<|y7 (fun j=>false) (by kernel_rfl) Z (zn (.r (.rest _)))<|au 0 Z (cA je Z Ze Z Z)<|au 1 Z (iS Zl Z)<|au 2 Z (l2 Z)<|au 3 Z (yc Z)<|au 4 Z (zr X5 Z ja (by decide) Z Z)<|au 5 Z (Gv.loadL (c:=.int _ _) (j:=0) jc Z Z ⟨_,.head⟩ Z)<|au 6 Z (bD b.toNat jk jv Z Z (by omega) (qq hbl))<|au 7 Z (cA jl Z Ya Z Z)<|au 8 Z (yk isAgg49 Ya Z Z)<|aV 9 Z<|ze (tF _) Z<|z6<|au 10 Z (iw Z)<|bY<|zc<|ah<|aY Z<|za (yc Z)<|za (zr X5 Z ja (by decide) Z Z)<|za (Gv.loadL (c:=.int _ _) (j:=1) jc Z Z ⟨_,.head⟩ Z)<|aU Z<|ak j9 Z ?_
  refine aj Z Z<|z6<|zt Z (fun ce=>?_) (fun ce=>?_)
  ·have hje:j=(ao f b).length:=by rw[hEb];have h0:(j:Int)=((cX f.blocks[b.toNat].term).length:Int):=(by simpa using ce);omega
   rw[if_pos hje] at hstep
   refine ah<|bw Z<|aY Z<|za (yc Z)<|za (zr X5 Z ja (by decide) Z Z)<|za (Gv.loadL (c:=.int _ _) (j:=0) jc Z Z ⟨_,.head⟩ Z)<|y8 (rows:=[[_]]) cZ Z Z Z Z Z<|yn (k:=1) j9 type3 Z Z Z Z Z (fun _=>.t1) (by rw[bf];omega) (by decide) Z (by show (out.length+1)*8≤_;omega) (by show out.length+1≤_;omega)<|fun i48=>bM Z<|z6<|ah<|bw Z<|bw Z<|za (Gv.lenO Yx Z)<|za (Gv.sub Z Z (by unfold nN;show _∧((r.length+1:Nat):Int) - 1≤_;omega))<|az.cutLast (j:=r.length) Yx sizeOf239 Z Z (by show ((r.length+1:Nat):Int) - 1=_;omega) .head (by decide) (by rw[uI])<|bM Z<|z6<|y9 ?_
   exact ⟨(k+1,i48,il),di,⟨(by rw[hstep,qw];rfl),(by rw[hstep];rfl),trivial⟩,⟨_,(.refl _),by rw[hstep];dsimp only;rw[←Km];rfl⟩,⟨hk2,hsn⟩,by exact hmn⟩
  ·have hje:¬j=(ao f b).length:=by rw[hEb];have h0:¬(j:Int)=((cX f.blocks[b.toNat].term).length:Int):=(by simpa using ce);omega
   have hj2:j<(cX f.blocks[b.toNat].term).length:=by rw[←hEb];omega
   rw[if_neg hje] at hstep
   obtain ⟨c,hc⟩:∃c,ge (ao f b) j=c:=⟨_,rfl⟩
   have hcj:(cX f.blocks[b.toNat].term)[j]?=some c:=by rw[←hEb];unfold ge at hc;rw[←hc,hEb,qq hj2];rfl
   have hcr:=hG.rng b hbr.1 hbr.2 c (by rw[hEb];exact w3 hcj)
   rw[hc] at hstep
   have hgs:seen[c.toNat]?=some (gb seen c):=by unfold gb;rw[qq (by omega)];rfl
   have hl2:=hG.len b
   rw[hEb] at hl2
   refine zd<|ah<|aU Z<|aY Z<|za (yc Z)<|za (zr X5 Z ja (by decide) Z Z)<|za (Gv.loadL (c:=.int _ _) (j:=1) jc Z Z ⟨_,.head⟩ Z)<|za (bD j j9 ja Z Z Z hcj)<|ax jc Z<|ay Z<|z6<|ah<|aY Z<|za (yc Z)<|za (zr X5 Z ja (by decide) Z Z)<|za (Gv.loadL (c:=.int _ _) (j:=1) jc Z Z ⟨_,.head⟩ Z)<|aA Z Z<|za (yc Z)<|za (zr X5 Z ja (by decide) Z Z)<|az.storeL (j:=1) (l:=[_]) (new:=[_,_]) ja Z Z Z Z Z Z Z .head Z Z Z<|z6<|ah<|bw Z<|aa Z<|za (q0 (j:=c.toNat) Za Z5 Z Z (by omega) ⟨_,.t2⟩ (by first|rfl|(simp[bf,bd];done)|(simp[bf,bd];omega)) (by omega))<|za (Gv.loadB (j:=c.toNat) Zm Z ⟨_,.t2⟩ hgs)<|aF Z<|z6<|zt Z (fun cs=>?_) (fun cs=>?_)
   ·rw[if_neg (by simpa using cs)] at hstep
    refine ah<|bw Z<|aa Z<|za (q0 (j:=c.toNat) Za Z5 Z Z (by omega) ⟨_,.t2⟩ (by first|rfl|(simp[bf,bd];done)|(simp[bf,bd];omega)) (by omega))<|az.storeB (j:=c.toNat) Z5 Z Z .t2 (by first|omega|(simp;omega))<|z6<|aM<|bw Z<|aa Z<|za (zz (cps:=[(0,[_]),(1,[_])]) (rs:=[_,_]) JM Z Z Z)<|y8 (rows:=[[_,_]]) BD Z Z Z Z Z<|yn (k:=2) Yx type239 Z Z Z Z Z (fun _=>.head) (by rw[qw,uI];show r.length*2+2=(r.length+1)*2;omega) (by decide) Z (by show (r.length+1+1)*16≤_;omega) (by show r.length+1+1≤_;omega)<|fun i80=>bM Z<|z6 ?_
    exact ⟨(k+1,io,i80),di,⟨(by rw[hstep];rfl),(by rw[hstep];rfl),trivial⟩,⟨_,(.refl _),by rw[hstep,lp,lp];rfl⟩,⟨hk2,hsn⟩,by exact hmn⟩
   ·rw[if_pos (by simpa using cs)] at hstep
    refine zd ?_
    exact ⟨(k+1,io,il),di,⟨(by rw[hstep];rfl),(by rw[hstep];rfl),trivial⟩,⟨_,(.refl _),by rw[hstep,lp];rfl⟩,⟨hk2,hsn⟩,by exact hmn⟩
end
section
open Go.Proofs.Tryz
section
variable {E:World} {P:Program} {n:Nat} {l:List Oper} {W:Nat→Bool} {Q:aS→OL→Prop} {fuel:Nat} {listed:Array Bool} {env:aS} {O Os Om:OL}
theorem bK.many {is:List Nat} (hr:Region.ready .any l.toArray listed=is) (h0:is≠[])
  (h:∀k∈is,∃o,l[k]?=some o∧az P E l.toArray (fun env' Om'=>bK P E l W Q fuel (listed.setIfInBounds k true) env' Os Om') [o] env Om):bK P E l W Q (fuel+1) listed env Os Om:=fun I F ρ w Ls h1 hLs h2=>by
 refine ⟨fun h0'=>absurd (hr.symm.trans h0') h0,fun k hk o2 ho2=>?_⟩
 rw[hr] at hk
 rw[List.getElem?_toArray] at ho2
 obtain ⟨o,e,h⟩:=h k hk
 rw[e] at ho2
 cases ho2
 exact q3 (fun ρ' w' ⟨J,env',Om',a,b,c,d⟩=>by
   have hst:e9 I.k Ls E w':=by
    obtain ⟨J',L',h3,h4,h5⟩:=c.here
    exact ⟨J',L',a.k.trans h3,h4,h5⟩
   refine ⟨⟨hst.less,.inr hst⟩,cL.mono ?_ ?_ (fun _ _=>qp a) _ _ _ _ (d J F ρ' w' Ls b (hLs.mono a) c)⟩
   ·rintro w ⟨J',L',h3,h4⟩;exact ⟨J',L',a.k.trans h3,h4⟩
   ·rintro w ⟨J',L',h3,h4⟩;exact ⟨J',L',a.k.trans h3,h4⟩) _ _ _ (h I (Ls++F) ρ w h1 h2)
theorem bK.four {i j m q:Nat} {o1 o2 o3 o4:Oper} (hi:l[i]?=some o1) (hj:l[j]?=some o2) (hm:l[m]?=some o3) (hq:l[q]?=some o4) (hr:Region.ready .any l.toArray listed=[i,j,m,q])
  (h1:az P E l.toArray (fun env' Om'=>bK P E l W Q fuel (listed.setIfInBounds i true) env' Os Om') [o1] env Om)
  (h2:az P E l.toArray (fun env' Om'=>bK P E l W Q fuel (listed.setIfInBounds j true) env' Os Om') [o2] env Om)
  (h3:az P E l.toArray (fun env' Om'=>bK P E l W Q fuel (listed.setIfInBounds m true) env' Os Om') [o3] env Om)
  (h4:az P E l.toArray (fun env' Om'=>bK P E l W Q fuel (listed.setIfInBounds q true) env' Os Om') [o4] env Om):bK P E l W Q (fuel+1) listed env Os Om:=
 bK.many hr (by simp) fun k hk=>by
  simp only[List.mem_cons,List.not_mem_nil,or_false] at hk
  rcases hk with rfl|rfl|rfl|rfl
  ·exact ⟨_,hi,h1⟩
  ·exact ⟨_,hj,h2⟩
  ·exact ⟨_,hm,h3⟩
  ·exact ⟨_,hq,h4⟩
end
end
section
open Go.Proofs.Tryz
def Dy (b:Nat) (T:TypeId) (vs:List Value):bQ:=.heap fun L=>L=[(b,.cells vs.toArray T (0,0))]
def Iu (b off n c:Nat):AV:=.raw (.slice (some ⟨b,off,none⟩) n c)
section
variable {E:World} {P:Program} {ops:Array Oper} {K:aS→OL→Prop} {env:aS} {O O' O'':OL} {rest:List Oper}
variable {d ty:Nat} {pos:String} {af:Array Edge} {x y z:Operand} {t u e T:TypeId}
theorem az.makeRow {i:TypeInfo} {zv z1:Value} {m:Nat} {k1 k2:IntKind} {l l':Int} (ht:P.underlying t=some (.slice e)) (hi:P.info? e=some i) (hz:i.zero=some zv) (hzc:zv.cells=#[z1]) (hk:i.size=1) (hx:bb env x=.int k1 l) (hy:bb env y=.int k2 l')
  (hl:l=(m:Int)) (hl':l'=(m:Int)) (hb:(i.bytes:Int)*(m:Int)≤281474976710656) (hm:m≤281474976710656) (kk:∀b,az P E ops K rest (bC env d (Iu b 0 m m)) ((0,Dy b e (List.replicate m z1))::O)) :
  az P E ops K (Oper.mk (some d) (.makeSlice t x y) ty pos af none::rest) env O:=fun I F ρ w h1 h2=>by
 obtain ⟨htop,L,hL,hS⟩:=h2
 refine bP.make1 ht hi hz hzc hk (fY h1 hx) (fY h1 hy) hl hl' hb hm hS fun b w' hS'=>?_
 exact kk b I F _ _ (h1.upd d rfl) ⟨htop,_,⟨[(b,.cells (List.replicate m z1).toArray e (0,0))],L,rfl,rfl,hL⟩,by simpa using hS'⟩
theorem Gv.rowLo {b n c j:Nat} {a:Int} (ht:P.underlying t=some (.slice e)) (hs:∀w,(sizeOf e).run P w=.ok 1 w) (hx:bb env x=Iu b 0 n c) (hy:bb env y=.int .i64 a) (hi:a=(j:Int)) (hj:j≤n) (hc:j<c) (hnc:n≤c) :
  Gv P env O (Oper.mk (some d) (.slice t x (some y) none none) ty pos af none) (Iu b j (n - j) (c - j)):=qm fun I ρ h=>by
 have h1:=gy h hx
 have h2:=fY h hy
 subst hi
 refine ⟨_,Z,fun w=>?_⟩
 have hcj:¬c=j:=by omega
 simp[execOp,Instr.sliceAt,Instr.slice,Instr.sliceBounds,Instr.sliceBound,asIntOf,Sem.run_bind,run_underlying ht,hs,h1,h2,hcj,hj,bE]
theorem Gv.rowHi {b n c j:Nat} {a:Int} (ht:P.underlying t=some (.slice e)) (hs:∀w,(sizeOf e).run P w=.ok 1 w) (hx:bb env x=Iu b 0 n c) (hy:bb env y=.int .i64 a) (hi:a=(j:Int)) (hc:j≤c) :
  Gv P env O (Oper.mk (some d) (.slice t x none (some y) none) ty pos af none) (Iu b 0 j c):=qm fun I ρ h=>by
 have h1:=gy h hx
 have h2:=fY h hy
 subst hi
 refine ⟨_,Z,fun w=>?_⟩
 simp[execOp,Instr.sliceAt,Instr.slice,Instr.sliceBounds,Instr.sliceBound,asIntOf,Sem.run_bind,run_underlying ht,hs,h1,h2,hc,bE]
theorem Gv.lenRow {b off m c:Nat} (ht:P.underlying t=some (.slice T)) (hx:bb env x=Iu b off m c):Gv P env O (Oper.mk (some d) (.call { callee:=.builtin .len,args:=#[x],argTypes:=#[t] }) ty pos af none) (.int .i64 m):=qm fun I ρ h=>by
 have h1:=gy h hx
 exact ⟨_,rfl,fun w=>by simp[execOp,resolve,h1,invoke,builtin,Builtin.len_,run_underlying ht,goInt]⟩
theorem az.copyRow {b off dl dc sl q:Nat} {vs cs:List Value} {ty2:TypeId} (ht:P.underlying t=some (.slice e)) (hs:(P.info? e).map (·.size)=some 1) (hx:bb env x=Iu b off dl dc)
  (hq:cs.length=q) (hmin:q=Nat.min sl dl) (hO:gr O 0 (Dy b T vs) (Dy b T (vs.take off++cs++vs.drop (off+q))) O') (hfit:off+q≤vs.length) (h1c:∀v∈cs,v.oneCell'=true)
  (hy:∀I F ρ w,eH I env ρ→g9 I O F E w→∃a sc,ev ρ y=.slice (some a) sl sc∧∀j v,cs[j]?=some v→w.cell? (a.add j)=some v)
  (kk:az P E ops K rest (bC env d (.int .i64 q)) O') :
  az P E ops K (Oper.mk (some d) (.call { callee:=.builtin .copy,args:=#[x,y],argTypes:=#[t,ty2] }) ty pos af none::rest) env O:=fun I F ρ w h1 h2=>by
 obtain ⟨a,sc,ey,hsrc⟩:=hy I F ρ w h1 h2
 obtain ⟨htop,L,hL,hS⟩:=h2
 have ex:=gy h1 hx
 obtain ⟨A,B,hp,hA,hback⟩:=hO.rep hL
 have hA:A=[(b,.cells vs.toArray T (0,0))]:=hA
 subst hA
 have hS2:SL I.k ((b,.cells vs.toArray T (0,0))::(B++F)) E w:=hS.perm ((hp.append_right F).symm)
 have hrun:=run_copy_row (P:=P) w t ty2 ty e b off dl dc a sl sc vs.toArray T cs ht hs (hS2.own _ (.head _)) (by rw[hq,hmin]) hsrc (by simpa [hq] using hfit) h1c
 rw[hq] at hrun
 obtain ⟨L',h5,h6⟩:=hback (G.le.refl I) (A':=[(b,.cells (vs.take off++cs++vs.drop (off+q)).toArray T (0,0))]) rfl
 refine bP.step Z ?_
 unfold eY
 have hex:(execOp (Go.Proofs.YtbanfokidalbaaaGreatDoor.ev ρ) (Oper.mk (some d) (.call { callee:=.builtin .copy,args:=#[x,y],argTypes:=#[t,ty2] }) ty pos af none)).run P w=.ok (.value (goInt q)) (w.setRow b (vs.take off++cs++vs.drop (off+q)).toArray):=by
  simp only[execOp,resolve]
  simp at hrun
  simp[invoke,builtin,ex,ey,hrun]
 rw[hex]
 refine kk I F _ _ (h1.upd d Z) ⟨htop,L',h5,?_⟩
 exact (hS2.turn1).perm (h6.append_right F)
theorem dQ.rowOwn {t b m:Nat} {vs:List Value} {O1:OL} {c:Code} {Q:Exit→aS→OL→Prop} {n:Nat} (hv:env t=Iu b 0 m m) (hO:dw O 0 (Dy b T vs) O1) (hm:vs.length=m) (hc:∀u∈vs,u.oneCell'=true)
  (h:∀i,dQ P E n c Q (bC env t (.own i m)) ((i,.grow 1 T (vs.map lit))::O1)):dQ P E n c Q env O:=fun I F ρ w h1 h2=>by
 obtain ⟨i,hi⟩:=h2.name
 obtain ⟨J,e1,hle,e2,htop⟩:=hi (some b,m)
 obtain ⟨_,L,hL,hS⟩:=h2
 obtain ⟨A,B,hp,hA,hB⟩:=hO.rep hL
 have hA:A=[(b,.cells vs.toArray T (0,0))]:=hA
 subst hA
 refine (h i J F ρ w (fun q=>?_) ⟨htop,_,⟨[(b,.cells vs.toArray T (0,0))],B,Z,⟨some b,m,m,vs,e2,dx J vs,hc,fT.made (by rw[hm,Nat.mul_one])⟩,hB.mono hle⟩,by rw[e1];exact hS.perm (hp.symm.append_right F)⟩).mono fun _ _ _=>mW.up hle
 unfold bC
 cases hb:Nat.beq q t with
 |false=>exact bI.mono hle _ _ (h1 q)
 |true=>
  have:q=t:=Nat.eq_of_beq_eq_true hb
  subst this
  have h4:=h1 q
  rw[hv] at h4
  exact ⟨some b,m,e2,h4⟩
end
end
end Go.Proofs.YtbanfokidalbaaaGreatDoor
namespace Go.Proofs
open Go.Shelf
def Tryz.laysM246_ren:Go.Shelf.Ren:=⟨fun|246=>222|283=>235|284=>236|285=>237|286=>238|129=>194|317=>244|318=>245|319=>246|320=>247|337=>249|338=>250|n=>n,fun|2=>2|3=>3|9=>9|4=>4|171=>331|0=>0|53=>219|37=>333|5=>5|173=>334|212=>341|51=>243|20=>20|213=>342|46=>204|232=>344|233=>345|n=>n,fun|17=>2|18=>3|19=>4|n=>n⟩
def Tryz.laysM243_ren:Go.Shelf.Ren:=⟨fun|243=>207|246=>222|283=>235|284=>236|285=>237|286=>238|129=>194|317=>244|318=>245|319=>246|320=>247|337=>249|338=>250|n=>n,fun|3=>3|9=>9|2=>2|4=>4|171=>331|0=>0|53=>219|37=>333|5=>5|173=>334|212=>341|51=>243|20=>20|213=>342|46=>204|232=>344|233=>345|n=>n,fun|17=>2|18=>3|19=>4|n=>n⟩
def Tryz.laysM171_ren:Go.Shelf.Ren:=⟨fun|171=>175|243=>207|246=>222|283=>235|284=>236|285=>237|286=>238|129=>194|317=>244|318=>245|319=>246|320=>247|337=>249|338=>250|n=>n,fun|3=>3|9=>9|2=>2|4=>4|171=>331|0=>0|53=>219|37=>333|5=>5|173=>334|212=>341|51=>243|20=>20|213=>342|46=>204|232=>344|233=>345|n=>n,fun|17=>2|18=>3|19=>4|n=>n⟩
theorem Tryz.laysM171:Go.Proofs.LaysM.n171 prog Tryz.laysM171_ren:={
 mixed:=by kernel_rfl
 f129:=func194.trans (congrArg some (by kernel_rfl))
 f171:=func175.trans (congrArg some (by kernel_rfl))
 f243:=func207.trans (congrArg some (by kernel_rfl))
 f246:=func222.trans (congrArg some (by kernel_rfl))
 f283:=func235.trans (congrArg some (by kernel_rfl))
 f284:=func236.trans (congrArg some (by kernel_rfl))
 f285:=func237.trans (congrArg some (by kernel_rfl))
 f286:=func238.trans (congrArg some (by kernel_rfl))
 f317:=func244.trans (congrArg some (by kernel_rfl))
 f318:=func245.trans (congrArg some (by kernel_rfl))
 f319:=func246.trans (congrArg some (by kernel_rfl))
 f320:=func247.trans (congrArg some (by kernel_rfl))
 f337:=func249.trans (congrArg some (by kernel_rfl))
 f338:=func250.trans (congrArg some (by kernel_rfl))
 t0:=underlying0
 a0:=isAgg0
 z0:=sizeOf0
 v0:=zeroValue0
 t2:=underlying2
 a2:=isAgg2
 z2:=sizeOf2
 v2:=zeroValue2
 t3:=underlying3
 a3:=isAgg3
 z3:=sizeOf3
 v3:=zeroValue3
 t4:=underlying4
 a4:=isAgg4
 z4:=sizeOf4
 v4:=zeroValue4
 t5:=underlying5
 a5:=isAgg5
 z5:=sizeOf5
 v5:=zeroValue5
 t9:=underlying9
 a9:=isAgg9
 z9:=sizeOf9
 v9:=zeroValue9
 t20:=underlying20
 a20:=isAgg20
 z20:=sizeOf20
 v20:=zeroValue20
 t37:=underlying333
 a37:=isAgg333
 z37:=sizeOf333
 v37:=zeroValue333
 t46:=underlying204
 a46:=isAgg204
 z46:=sizeOf204
 v46:=zeroValue204
 t51:=underlying243
 a51:=isAgg243
 z51:=sizeOf243
 v51:=zeroValue243
 t53:=underlying219
 a53:=isAgg219
 z53:=sizeOf219
 v53:=zeroValue219
 t171:=underlying331
 a171:=isAgg331
 z171:=sizeOf331
 v171:=zeroValue331
 t173:=underlying334
 a173:=isAgg334
 z173:=sizeOf334
 v173:=zeroValue334
 t212:=underlying341
 a212:=isAgg341
 z212:=sizeOf341
 v212:=zeroValue341
 t213:=underlying342
 a213:=isAgg342
 z213:=sizeOf342
 t232:=underlying344
 a232:=isAgg344
 z232:=sizeOf344
 v232:=zeroValue344
 t233:=underlying345
 a233:=isAgg345
 z233:=sizeOf345
 v233:=zeroValue345
 g17:=by kernel_rfl
 g18:=by kernel_rfl
 g19:=by kernel_rfl
 i0:=by kernel_rfl
 i2:=by kernel_rfl
 i3:=by kernel_rfl
 i4:=by kernel_rfl
 i5:=by kernel_rfl
 i9:=by kernel_rfl
 i20:=by kernel_rfl
 i37:=by kernel_rfl
 i46:=by kernel_rfl
 i51:=by kernel_rfl
 i53:=by kernel_rfl
 i171:=by kernel_rfl
 i173:=by kernel_rfl
 i212:=by kernel_rfl
 i232:=by kernel_rfl
 i233:=by kernel_rfl
 m17:=by kernel_rfl
 m18:=by kernel_rfl
 m19:=by kernel_rfl }
open Go.RowKit Go.Sort Go.Lib in
theorem Tryz.strconv_Itoa (n:Int) (h0:-9223372036854775808≤n) (h1:n≤9223372036854775807) (w:World) (htab:Lib.TabIs prog w "internal/strconv.uint64pow10" .u64 Lib.pow10Tab) :
  Calls prog 175 #[.int .i64 n] w fun e w'=>e=.returned (.string ⟨(Lib.itoa n).toArray⟩)∧∃k os,w'=grow (w.drewN k) os:=Any.strconv_Itoa Tryz.laysM171 n h0 h1 w htab
def Tryz.lays189_ren:Go.Shelf.Ren:=⟨fun|189=>119|125=>157|257=>156|128=>193|129=>194|294=>184|295=>185|296=>186|297=>187|298=>188|299=>189|216=>190|300=>191|301=>192|328=>213|329=>214|330=>215|331=>216|332=>217|215=>218|343=>229|n=>n,fun|28=>23|3=>3|46=>204|0=>0|51=>243|53=>219|4=>4|183=>277|182=>276|131=>281|5=>5|9=>9|218=>298|222=>302|228=>317|229=>120|n=>n,fun|n=>n⟩
theorem Tryz.lays189:Go.Proofs.Lays.n189 prog Tryz.lays189_ren:={
 mixed:=by kernel_rfl
 f125:=func157.trans (congrArg some (by kernel_rfl))
 f128:=func193.trans (congrArg some (by kernel_rfl))
 f129:=func194.trans (congrArg some (by kernel_rfl))
 f189:=func119.trans (congrArg some (by kernel_rfl))
 f215:=func218.trans (congrArg some (by kernel_rfl))
 f216:=func190.trans (congrArg some (by kernel_rfl))
 f257:=func156.trans (congrArg some (by kernel_rfl))
 f294:=func184.trans (congrArg some (by kernel_rfl))
 f295:=func185.trans (congrArg some (by kernel_rfl))
 f296:=func186.trans (congrArg some (by kernel_rfl))
 f297:=func187.trans (congrArg some (by kernel_rfl))
 f298:=func188.trans (congrArg some (by kernel_rfl))
 f299:=func189.trans (congrArg some (by kernel_rfl))
 f300:=func191.trans (congrArg some (by kernel_rfl))
 f301:=func192.trans (congrArg some (by kernel_rfl))
 f328:=func213.trans (congrArg some (by kernel_rfl))
 f329:=func214.trans (congrArg some (by kernel_rfl))
 f330:=func215.trans (congrArg some (by kernel_rfl))
 f331:=func216.trans (congrArg some (by kernel_rfl))
 f332:=func217.trans (congrArg some (by kernel_rfl))
 f343:=func229.trans (congrArg some (by kernel_rfl))
 t0:=underlying0
 a0:=isAgg0
 z0:=sizeOf0
 v0:=zeroValue0
 t3:=underlying3
 a3:=isAgg3
 z3:=sizeOf3
 v3:=zeroValue3
 t4:=underlying4
 a4:=isAgg4
 z4:=sizeOf4
 v4:=zeroValue4
 t5:=underlying5
 a5:=isAgg5
 z5:=sizeOf5
 v5:=zeroValue5
 t9:=underlying9
 a9:=isAgg9
 z9:=sizeOf9
 v9:=zeroValue9
 t28:=underlying23
 a28:=isAgg23
 z28:=sizeOf23
 v28:=zeroValue23
 t46:=underlying204
 a46:=isAgg204
 z46:=sizeOf204
 v46:=zeroValue204
 t51:=underlying243
 a51:=isAgg243
 z51:=sizeOf243
 v51:=zeroValue243
 t53:=underlying219
 a53:=isAgg219
 z53:=sizeOf219
 v53:=zeroValue219
 t131:=underlying281
 a131:=isAgg281
 z131:=sizeOf281
 v131:=zeroValue281
 t182:=underlying276
 a182:=isAgg276
 z182:=sizeOf276
 v182:=zeroValue276
 t183:=underlying277
 a183:=isAgg277
 z183:=sizeOf277
 v183:=zeroValue277
 t218:=underlying298
 a218:=isAgg298
 z218:=sizeOf298
 v218:=zeroValue298
 t222:=underlying302
 a222:=isAgg302
 z222:=sizeOf302
 v222:=zeroValue302
 t228:=underlying317
 a228:=isAgg317
 z228:=sizeOf317
 v228:=zeroValue317
 t229:=underlying120
 a229:=isAgg120
 z229:=sizeOf120
 v229:=zeroValue120 }
open Go.Sort Go.RowKit in
theorem Tryz.slices_Sort_int (blk off cap:Nat) (zs:List Int) (w:World) (hH:Holds (Value.int .i64) w blk off zs.toArray) (hblk:blk<w.heap.size) (hsz:zs.length<4611686018427387904) :
  Calls prog 119 #[.slice (some ⟨blk,off,none⟩) zs.length cap] w fun e w'=>
   e=.returned (.tuple #[])∧∃n os,w'=grow (putRow (Value.int .i64) (Sort.ahead w n) blk off (zs.mergeSort fun x y=>decide (x≤y)).toArray) os:=Any.slices_Sort_int Tryz.lays189 blk off cap zs w hH hblk hsz
def Tryz.lays200_ren:Go.Shelf.Ren:=⟨fun|200=>206|261=>221|311=>233|312=>234|n=>n,fun|21=>21|4=>4|51=>243|5=>5|119=>304|0=>0|141=>306|196=>323|193=>320|3=>3|198=>326|49=>324|194=>321|201=>329|226=>338|46=>204|227=>339|n=>n,fun|7=>0|8=>1|n=>n⟩
theorem Tryz.lays200:Go.Proofs.Lays.n200 prog Tryz.lays200_ren:={
 mixed:=by kernel_rfl
 f200:=func206.trans (congrArg some (by kernel_rfl))
 f261:=func221.trans (congrArg some (by kernel_rfl))
 f311:=func233.trans (congrArg some (by kernel_rfl))
 f312:=func234.trans (congrArg some (by kernel_rfl))
 t0:=underlying0
 a0:=isAgg0
 z0:=sizeOf0
 v0:=zeroValue0
 t3:=underlying3
 a3:=isAgg3
 z3:=sizeOf3
 v3:=zeroValue3
 t4:=underlying4
 a4:=isAgg4
 z4:=sizeOf4
 v4:=zeroValue4
 t5:=underlying5
 a5:=isAgg5
 z5:=sizeOf5
 v5:=zeroValue5
 t21:=underlying21
 a21:=isAgg21
 z21:=sizeOf21
 v21:=zeroValue21
 t46:=underlying204
 a46:=isAgg204
 z46:=sizeOf204
 v46:=zeroValue204
 t49:=underlying324
 a49:=isAgg324
 z49:=sizeOf324
 v49:=zeroValue324
 t51:=underlying243
 a51:=isAgg243
 z51:=sizeOf243
 v51:=zeroValue243
 t119:=underlying304
 a119:=isAgg304
 z119:=sizeOf304
 t141:=underlying306
 a141:=isAgg306
 z141:=sizeOf306
 v141:=zeroValue306
 t193:=underlying320
 a193:=isAgg320
 z193:=sizeOf320
 v193:=zeroValue320
 t194:=underlying321
 a194:=isAgg321
 z194:=sizeOf321
 v194:=zeroValue321
 t196:=underlying323
 a196:=isAgg323
 z196:=sizeOf323
 v196:=zeroValue323
 t198:=underlying326
 a198:=isAgg326
 z198:=sizeOf326
 v198:=zeroValue326
 t201:=underlying329
 a201:=isAgg329
 z201:=sizeOf329
 v201:=zeroValue329
 t226:=underlying338
 a226:=isAgg338
 z226:=sizeOf338
 v226:=zeroValue338
 t227:=underlying339
 a227:=isAgg339
 z227:=sizeOf339
 v227:=zeroValue339
 g7:=by kernel_rfl
 g8:=by kernel_rfl }
def Tryz.lays264_ren:Go.Shelf.Ren:=⟨fun|264=>154|n=>n,fun|53=>219|46=>204|n=>n,fun|n=>n⟩
theorem Tryz.lays264:Go.Proofs.Lays.n264 prog Tryz.lays264_ren:={
 mixed:=by kernel_rfl
 f264:=func154.trans (congrArg some (by kernel_rfl))
 t46:=underlying204
 a46:=isAgg204
 z46:=sizeOf204
 v46:=zeroValue204
 t53:=underlying219
 a53:=isAgg219
 z53:=sizeOf219
 v53:=zeroValue219 }
open Go.RowKit Go.Lib in
theorem Tryz.bits_Mul64 (x y:Nat) (hx:x<18446744073709551616) (hy:y<18446744073709551616) (w:World) :
  Calls prog 154 #[.int .u64 x,.int .u64 y] w fun e w'=>e=.returned (.tuple #[.int .u64 ((x*y / 18446744073709551616:Nat):Int),.int .u64 ((x*y % 18446744073709551616:Nat):Int)])∧w'=w:=Any.bits_Mul64 Tryz.lays264 x y hx hy w
def Tryz.lays212_ren:Go.Shelf.Ren:=⟨fun|212=>117|263=>153|264=>154|n=>n,fun|46=>204|51=>243|146=>244|53=>219|148=>246|n=>n,fun|n=>n⟩
theorem Tryz.lays212:Go.Proofs.Lays.n212 prog Tryz.lays212_ren:={
 mixed:=by kernel_rfl
 f212:=func117.trans (congrArg some (by kernel_rfl))
 f263:=func153.trans (congrArg some (by kernel_rfl))
 f264:=func154.trans (congrArg some (by kernel_rfl))
 t46:=underlying204
 a46:=isAgg204
 z46:=sizeOf204
 v46:=zeroValue204
 t51:=underlying243
 a51:=isAgg243
 z51:=sizeOf243
 v51:=zeroValue243
 t53:=underlying219
 a53:=isAgg219
 z53:=sizeOf219
 v53:=zeroValue219
 t146:=underlying244
 a146:=isAgg244
 z146:=sizeOf244
 v146:=zeroValue244
 t148:=underlying246
 a148:=isAgg246
 z148:=sizeOf246
 v148:=zeroValue246 }
open Go.RowKit Go.Lib in
theorem Tryz.bits_Mul (x y:Nat) (hx:x<18446744073709551616) (hy:y<18446744073709551616) (w:World) :
  Calls prog 117 #[.int .u64 x,.int .u64 y] w fun e w'=>e=.returned (.tuple #[.int .u64 ((x*y / 18446744073709551616:Nat):Int),.int .u64 ((x*y % 18446744073709551616:Nat):Int)])∧w'=w:=Any.bits_Mul Tryz.lays212 x y hx hy w
open Go.RowKit Go.Lib in
theorem Tryz.unicode_IsLetter_all (r:Int) (w:World) (hlo:-2147483648≤r) (hhi:r≤2147483647) (htab:Lib.TabIs prog w "unicode.properties" .u8 Lib.propertiesTab) (hV:RVar 1 letterT w) :
  Calls prog 206 #[.int .i32 r] w fun e w'=>e=.returned (.bool (isLetterU r))∧Below w.heap.size w w':=Any.unicode_IsLetter_all Tryz.lays200 (by kernel_rfl) r w hlo hhi htab hV
def Tryz.lays107_ren:Go.Shelf.Ren:=⟨fun|107=>118|108=>155|n=>n,fun|28=>23|3=>3|4=>4|0=>0|n=>n,fun|n=>n⟩
def Tryz.lays112_ren:Go.Shelf.Ren:=⟨fun|112=>152|n=>n,fun|28=>23|3=>3|4=>4|0=>0|n=>n,fun|n=>n⟩
theorem Tryz.lays112:Go.Proofs.Lays.n112 prog Tryz.lays112_ren:={
 mixed:=by kernel_rfl
 f112:=func152.trans (congrArg some (by kernel_rfl))
 t0:=underlying0
 a0:=isAgg0
 z0:=sizeOf0
 v0:=zeroValue0
 t3:=underlying3
 a3:=isAgg3
 z3:=sizeOf3
 v3:=zeroValue3
 t4:=underlying4
 a4:=isAgg4
 z4:=sizeOf4
 v4:=zeroValue4
 t28:=underlying23
 a28:=isAgg23
 z28:=sizeOf23
 v28:=zeroValue23 }
open Go.RowKit Go.Lib Go.Sort in
theorem Tryz.slices_Reverse_int (blk off cap:Nat) (zs:List Int) (w:World) (hH:Holds (Value.int .i64) w blk off zs.toArray) (hsz:zs.length≤9223372036854775807) :
  Calls prog 152 #[.slice (some ⟨blk,off,none⟩) zs.length cap] w fun e w'=>e=.returned (.tuple #[])∧∃n,w'=putRow (Value.int .i64) (Sort.ahead w n) blk off zs.reverse.toArray:=Any.slices_Reverse_int Tryz.lays112 blk off cap zs w hH hsz
open Go.RowKit Go.Lib Go.Sort in
theorem Tryz.slices_Reverse_int_empty (a:Option Addr) (cap:Nat) (w:World) :
  Calls prog 152 #[.slice a 0 cap] w fun e w'=>e=.returned (.tuple #[])∧w'=w:=Any.slices_Reverse_int_empty Tryz.lays112 a cap w
open Go.RowKit Go.Sort in
theorem Tryz.slices_Sort_int_none (p:Option Addr) (cap:Nat) (w:World) :
  Calls prog 119 #[.slice p 0 cap] w fun e w'=>e=.returned (.tuple #[])∧w'=w:=Any.slices_Sort_int_none Tryz.lays189 p cap w
end Go.Proofs
namespace Go.Proofs.YtbanfokidalbaaaGreatDoor
section
open Go.Proofs.Tryz
open Go.Proofs
variable {E:World}
set_option maxRecDepth 20000
theorem wk (l:List Int) (i:Nat) (T:TypeId) (hl:l.length≤200000):ba prog E 152 [.own i l.length] [(i,.grow 1 T (cI l))] fun r O=>r=.tup []∧O=[(i,.grow 1 T (cI l.reverse))]:=
 ba.turned (g:=List.reverse) (B:=200001) func152 rfl (by decide) (fun l=>List.length_reverse) (fun blk cap zs w hH _ hz=>(Tryz.slices_Reverse_int blk 0 cap zs w hH (by omega)).mono fun e w' ⟨h1,n,h2⟩=>⟨h1,n,#[],by rw[h2,Go.Sort.grow_empty]⟩)
  (fun cap w=>Tryz.slices_Reverse_int_empty none cap w) rfl (by omega)
theorem wl (l:List Int) (i:Nat) (T:TypeId) (hl:l.length≤200000):ba prog E 119 [.own i l.length] [(i,.grow 1 T (cI l))] fun r O=>r=.tup []∧O=[(i,.grow 1 T (cI (kK l)))]:=
 ba.turned (g:=kK) (B:=200001) func119 rfl (by decide) (fun l=>(eL l).length_eq) (fun blk cap zs w hH hb hz=>Tryz.slices_Sort_int blk 0 cap zs w hH hb (by omega))
  (fun cap w=>Tryz.slices_Sort_int_none none cap w) rfl (by omega)
theorem aJ.ofSame {E:World} {P:Program} {f:FuncId} {fn:Func} {c:Code} {ars:List AV} {vs:List Value} {r:Value} {x:AV} (hf:P.funcs[f]?=some fn) (hb:fn.body=some c) (hn:fn.name≠"runtime.NumGoroutine") (has:ars=vs.map lit)
  (h:∀w,Calls P f vs.toArray w fun e w'=>e=.returned r∧w'=w) (hr:∀I,bI I x r):aJ P E f ars x:=fun I F w us h1 h2=>by
 subst has
 rw[lF h1]
 refine Fn.ofCalls hf hb hn ?_
 exact (h w).mono fun e w' ⟨he,hw⟩=>⟨_,he,I,x,[],.refl _,hr I,by rw[hw];exact h2,rfl⟩
theorem Dz (x y:Nat) (hx:x<18446744073709551616) (hy:y<18446744073709551616):aJ prog E 117 [.int .u64 (x:Int),.int .u64 (y:Int)] (.tup [.int .u64 ((x*y / 18446744073709551616:Nat):Int),.int .u64 ((x*y % 18446744073709551616:Nat):Int)]):=
 aJ.ofSame (vs:=[.int .u64 x,.int .u64 y]) func117 rfl (by decide) rfl (fun w=>Tryz.bits_Mul x y hx hy w) (fun I=>⟨_,rfl,_,_,rfl,rfl,_,_,rfl,rfl,rfl⟩)
theorem Ac (x y:Nat) (hx:x<18446744073709551616) (hy:y<18446744073709551616):aJ prog E 154 [.int .u64 (x:Int),.int .u64 (y:Int)] (.tup [.int .u64 ((x*y / 18446744073709551616:Nat):Int),.int .u64 ((x*y % 18446744073709551616:Nat):Int)]):=
 aJ.ofSame (vs:=[.int .u64 x,.int .u64 y]) func154 rfl (by decide) rfl (fun w=>Tryz.bits_Mul64 x y hx hy w) (fun I=>⟨_,rfl,_,_,rfl,rfl,_,_,rfl,rfl,rfl⟩)
def yZ (v:Int) (n k:Nat):List Value:=List.replicate k (.int .i64 v)++List.replicate (n - k) (.int .i64 0)
theorem BE {v:Int} {n k:Nat} (h:k≤n):(yZ v n k).length=n:=by unfold yZ;simp;omega
theorem wm {v:Int} {n k q:Nat} (h:q≤k):(yZ v n k).take q=List.replicate q (.int .i64 v):=by unfold yZ;rw[List.take_append_of_le_length (by simp;exact h),List.take_replicate,Nat.min_eq_left h]
theorem FY {v:Int} {n k q:Nat} (h:k+q≤n):(yZ v n k).take k++List.replicate q (.int .i64 v)++(yZ v n k).drop (k+q)=yZ v n (k+q):=by
 rw[wm (Nat.le_refl _)]
 unfold yZ
 rw[List.drop_append,List.drop_eq_nil_of_le (by simp),List.length_replicate,List.drop_replicate,List.replicate_append_replicate,List.nil_append]
 congr 2
 omega
theorem Iv {v:Int} {n k:Nat}:∀u∈yZ v n k,u.oneCell'=true:=fun u hu=>by
 unfold yZ at hu
 rcases List.mem_append.1 hu with h|h
 ·rw[List.eq_of_mem_replicate h];rfl
 ·rw[List.eq_of_mem_replicate h];rfl
theorem FZ (v:Int) (n:Nat):(yZ v n n).map lit=cI (List.replicate n v):=by unfold yZ cI;simp[lit]
theorem Iw {I:G} {k:IntKind} {v:Int} {x:Value} (h:bI I (.fro 1 [[.int k v]]) x):∃b off c,x=.slice (some ⟨b,off,none⟩) 1 c∧Bg I.k b off (.int k v):=by
 obtain ⟨a,n,c,e,hn,_,_,⟨b,off,vs,ea,hl,hr,hk⟩,_⟩:=h
 obtain ⟨u,us,rfl,hu,_⟩:=hr
 have hu:u=.int k v:=hu
 subst ea hu
 simp only[List.length_cons,List.length_nil] at hn
 subst hn
 exact ⟨b,off,c,e,by have:=hk 0 _ rfl;simpa using this⟩
theorem KD {env:aS} {O:OL} {y:Operand} {k:IntKind} {v:Int} (hy:bb env y=.fro 1 [[.int k v]]):∀I F ρ w,eH I env ρ→g9 I O F E w→∃a sc,ev ρ y=.slice (some a) 1 sc∧∀j u,([Value.int k v]:List Value)[j]?=some u→w.cell? (a.add j)=some u:=fun I F ρ w h1 h2=>by
 have h:=h1.ev y
 rw[hy] at h
 obtain ⟨b,off,c,e,hk⟩:=Iw h
 obtain ⟨_,L,_,hS⟩:=h2
 refine ⟨⟨b,off,none⟩,c,e,fun j u hj=>?_⟩
 cases j with
 |zero=>simp at hj;subst hj;rw[bE];exact hS.at_ (hk.at_ _)
 |succ j=>simp at hj
theorem KE {env:aS} {O O':OL} {y:Operand} {b n c:Nat} {T:TypeId} {vs cs:List Value} (hy:bb env y=Iu b 0 n c) (hO:dw O 0 (Dy b T vs) O') (hc:∀(j:Nat) u,cs[j]?=some u→vs[j]?=some u):∀I F ρ w,eH I env ρ→g9 I O F E w→∃a sc,ev ρ y=.slice (some a) n sc∧∀j u,cs[j]?=some u→w.cell? (a.add j)=some u:=fun I F ρ w h1 h2=>by
 have h:=gy h1 hy
 obtain ⟨_,L,hL,hS⟩:=h2
 obtain ⟨A,B,hp,hA,hB⟩:=hO.rep hL
 have hA:A=[(b,.cells vs.toArray T (0,0))]:=hA
 subst hA
 have hS2:SL I.k ((b,.cells vs.toArray T (0,0))::(B++F)) E w:=hS.perm ((hp.append_right F).symm)
 refine ⟨⟨b,0,none⟩,c,h,fun j u hj=>?_⟩
 rw[bE,hS2.cell_own,List.getElem?_toArray,Nat.zero_add]
 exact hc j u hj
theorem aL (v:Int) (n:Nat) (hn:n≤100000) (h0:0<n):ba prog E 75 [.fro 1 ([v].map fa),.int .i64 n] [] (fun x O'=>∃i:Nat,x=.own i n∧O'=[(i,.grow 1 3 (cI (List.replicate n v)))]):=by
 have hw:IntKind.wrap .u64 (n:Int)=n:=by unfold IntKind.wrap;simp[IntKind.bits,IntKind.signed];omega
 have hm:(1*n / 18446744073709551616:Nat)=0:=by omega
 have hm2:(1*n % 18446744073709551616:Nat)=n:=by omega
 refine zo func75 Z (by decide) Z ?_
 have hmul:aJ prog E 117 [.int .u64 1,.int .u64 (IntKind.wrap .u64 (n:Int))] (.tup [.int .u64 0,.int .u64 (n:Int)]):=by
  have:=Dz (E:=E) 1 n (by omega) (by omega)
  rw[hm,hm2] at this
  rw[hw];exact this
 refine ah<|bV Z<|z6<|zc<|ah<|aa Z<|aw Z Z<|z6<|yj Z (by simp)<|zd<|ah<|aU Z<|ak j9 Z<|za (Gv.conv Y0 Yy Z)<|aa Z<|za (Gv.conv Y0 Yy Z)<|ze (hmul) Z<|za (m6 Z)<|za (mq Z Z)<|za (mq Z Z)<|ay Z<|ay Z<|z6<|zc<|ah<|aa Z<|aO Z Z<|ai Z<|z8 Z Z (by decide)<|aa Z<|z8 Z Z (by decide)<|aO Z Z<|za (kY Z (by decide) Z)<|z6<|yj Z (by simp;omega)<|zd<|ah<|aa Z<|za (Gv.conv Yy Y0 Z)<|az.makeRow (m:=n) j9 type3 Z Z Z Z Z (by show IntKind.wrap .i64 (n:Int)=n;unfold IntKind.wrap;simp[IntKind.bits,IntKind.signed];omega) (by show IntKind.wrap .i64 (n:Int)=n;unfold IntKind.wrap;simp[IntKind.bits,IntKind.signed];omega) (by show (8:Int)*_≤_;omega) (by omega)<|fun b=>bV Z ?_
 refine z6<|ah<|za (yl (v:=.raw _) Z)<|aU Z<|az.copyRow (cs:=[.int .i64 v]) (q:=1) j9 Z Z Z (Nat.min_eq_left h0).symm .head (by rw[List.length_replicate];omega) (by simp[Value.oneCell']) (KD Z) ?_
 have hstart:(List.replicate n (Value.int .i64 0)).take 0++[Value.int .i64 v]++(List.replicate n (Value.int .i64 0)).drop (0+1)=yZ v n 1:=by unfold yZ;simp[List.drop_replicate]
 rw[hstart]
 refine ay Z<|z6<|zc<|zh<|ya (γ:=Nat) [7] (fun k=>[(8,.int .i64 k)]) (fun k=>[(0,Dy b 3 (yZ v n k))]) (fun k=>1≤k∧k≤n) (fun k=>n - k) 1 aG aC (⟨Nat.le_refl _,h0⟩) ?_
 rintro k ⟨hk1,hk⟩
 refine zc<|ah<|aa Z<|za (yl (v:=.raw _) Z)<|za (Gv.lenRow j9 Z)<|aw Z Z<|z6<|zp Z (fun ck=>?_) (fun ck=>?_)
 ·have hk2:k<n:=by simp at ck;omega
  obtain ⟨q,hq⟩:∃q,q=min k (n - k):=⟨_,rfl⟩
  have hq1:0<q∧q≤k∧k+q≤n:=by omega
  refine zd<|zh<|y7 (fun j=>false) (by kernel_rfl) Z (zn (.rest _))<|au 0 Z (cG Z)<|au 1 Z (yl (v:=.raw _) Z)<|au 2 Z (cG Z)<|au 3 Z (Gv.rowLo (j:=k) j9 ja Z Z Z (by omega) (by omega) (by omega))<|au 4 Z (yl (v:=.raw _) Z)<|au 5 Z (cG Z)<|au 6 Z (Gv.rowHi (j:=k) j9 ja Z Z Z (by omega))<|aV 7 Z<|az.copyRow (cs:=List.replicate q (.int .i64 v)) (q:=q) j9 Z Z (List.length_replicate ..) hq .head (by rw[BE hk];omega) (fun u hu=>by rw[List.eq_of_mem_replicate hu];rfl) (KE (vs:=yZ v n k) Z .head (fun j u hj=>by rw[←wm (v:=v) (n:=n) hq1.2.1,List.getElem?_take] at hj;split at hj;exact hj;cases hj)) ?_
  rw[FY hq1.2.2]
  refine z6<|au 8 Z (M9 Z Z)<|au 9 Z (Fa Z)<|bY ?_
  exact ⟨k+q,aG,aG,aC,⟨by omega,hq1.2.2⟩,by omega⟩
 ·have hkn:k=n:=by simp at ck;omega
  subst hkn
  refine y9<|ah<|za (yl (v:=.raw _) Z)<|bV Z<|z6<|dQ.rowOwn (t:=4) Z .head (BE (Nat.le_refl _)) Iv (fun i=>?_)
  rw[FZ]
  refine zg<|zk (x:=.own _ _) Z ?_
  exact ⟨i,rfl,rfl⟩
end
end Go.Proofs.YtbanfokidalbaaaGreatDoor
