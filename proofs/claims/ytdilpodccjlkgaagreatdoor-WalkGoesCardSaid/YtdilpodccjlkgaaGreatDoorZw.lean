/- The document's machine: is there a place, does a check pass. Of programs as they are run. -/
import Derived.Test.YtdilpodccjlkgaaGreatDoorZd
import Derived.Test.YtdilpodccjlkgaaGreatDoorZc
import Derived.Test.YtdilpodccjlkgaaGreatDoorZe
import Derived.Test.YtdilpodccjlkgaaGreatDoorZn
import Derived.Test.YtdilpodccjlkgaaGreatDoorZv
set_option linter.unusedVariables false
set_option linter.unusedSimpArgs false
set_option linter.unusedSectionVars false
namespace Go.Proofs.YtdilpodccjlkgaaGreatDoor
open Go.Proofs.Tryz
open Go.Proofs
variable {E:World}
set_option maxRecDepth 20000
theorem xZ {k:Nat} (hk:k≤2) {x y:Int} (hx:bB x) (hy:bB y):aM prog E 126 [.int .i64 k,.int .i64 x,.int .i64 y] (.bool (decide (dk k x y))):=by
 have hx1:=hx;have hy1:=hy
 unfold bB at hx1 hy1
 refine zp func126 Z (by decide) Z<|ai<|ab Z<|z6<|zd<|ai<|aa Z<|z6<|zm<|ai<|ak Z Z<|ab Z<|z6<|zt Z (fun c0=>?_) (fun c0=>?_)
 ·have hk0:k=0:=by omega
  subst hk0
  refine ai<|aa Z<|aZ Z Z<|aj Z<|zq (s:=16) Z (fun c1=>?_) (fun c1=>?_)
  ·refine z8 Z Z c1<|aa Z<|z8 Z Z c1<|aa Z<|z8 Z Z c1<|za (Gv.sub Z Z (by unfold lE;simp at *;omega))<|z8 Z Z c1<|aZ Z Z<|aw Z c1 Z<|aC Z<|aj Z<|zq (s:=23) Z (fun c2=>?_) (fun c2=>?_)
   ·refine z8 Z Z c2<|aa Z<|z8 Z Z c2<|ay Z Z<|z8 Z Z c2<|aj Z<|zq (s:=26) Z (fun c3=>?_) (fun c3=>?_)
    ·refine z8 Z Z c3<|aa Z<|z8 Z Z c3<|aa Z<|z8 Z Z c3<|za (Gv.sub Z Z (by unfold lE;simp at *;omega))<|z8 Z Z c3<|ay Z Z<|z8 Z Z c2<|aw Z c3 Z<|z8 Z Z c2<|aC Z<|aw Z c2 Z<|ab Z<|z6<|zg<|zn (x:=.bool _) Z ?_
     exact jb (by rw[w3];unfold dk iu bB;simp at *<;>omega)
    ·refine z7 Z Z c3<|z7 Z Z c3<|z7 Z Z c3<|z7 Z Z c3<|z8 Z Z c2<|ax Z c3 Z<|z8 Z Z c2<|aC Z<|aw Z c2 Z<|ab Z<|z6<|zg<|zn (x:=.bool _) Z ?_
     exact jb (by rw[w3];unfold dk iu bB;simp at *<;>omega)
   ·refine z7 Z Z c2<|z7 Z Z c2<|z7 Z Z c2<|zk Z Z<|zk Z Z<|zk Z Z<|zk Z Z<|z7 Z Z c2<|z7 Z Z c2<|ax Z c2 Z<|ab Z<|z6<|zg<|zn (x:=.bool _) Z ?_
    exact jb (by rw[w3];unfold dk iu bB;simp at *<;>omega)
  ·refine z7 Z Z c1<|z7 Z Z c1<|z7 Z Z c1<|z7 Z Z c1<|ax Z c1 Z<|aC Z<|aj Z<|z8 Z Z Z<|aa Z<|z8 Z Z Z<|ay Z Z<|z8 Z Z Z<|aj Z<|zq (s:=26) Z (fun c4=>?_) (fun c4=>?_)
   ·refine z8 Z Z c4<|aa Z<|z8 Z Z c4<|aa Z<|z8 Z Z c4<|za (Gv.sub Z Z (by unfold lE;simp at *;omega))<|z8 Z Z c4<|ay Z Z<|z8 Z Z Z<|aw Z c4 Z<|z8 Z Z Z<|aC Z<|aw Z Z Z<|ab Z<|z6<|zg<|zn (x:=.bool _) Z ?_
    exact jb (by rw[w3];unfold dk iu bB;simp at *<;>omega)
   ·refine z7 Z Z c4<|z7 Z Z c4<|z7 Z Z c4<|z7 Z Z c4<|z8 Z Z Z<|ax Z c4 Z<|z8 Z Z Z<|aC Z<|aw Z Z Z<|ab Z<|z6<|zg<|zn (x:=.bool _) Z ?_
    exact jb (by rw[w3];unfold dk iu bB;simp at *<;>omega)
 ·refine ai<|ak Z Z<|ab Z<|z6<|zt Z (fun c1=>?_) (fun c1=>?_)
  ·have hk1:k=1:=by omega
   subst hk1
   refine ai<|aa Z<|ay Z Z<|aj Z<|zq (s:=38) Z (fun c5=>?_) (fun c5=>?_)
   ·refine z8 Z Z c5<|aa Z<|z8 Z Z c5<|aa Z<|z8 Z Z c5<|za (Gv.add Z Z (by unfold lE;simp at *;omega))<|z8 Z Z c5<|aZ Z Z<|aw Z c5 Z<|aC Z<|aj Z<|zq (s:=45) Z (fun c6=>?_) (fun c6=>?_)
    ·refine z8 Z Z c6<|aa Z<|z8 Z Z c6<|aZ Z Z<|z8 Z Z c6<|aj Z<|zq (s:=48) Z (fun c7=>?_) (fun c7=>?_)
     ·refine z8 Z Z c7<|aa Z<|z8 Z Z c7<|aa Z<|z8 Z Z c7<|za (Gv.add Z Z (by unfold lE;simp at *;omega))<|z8 Z Z c7<|ay Z Z<|z8 Z Z c6<|aw Z c7 Z<|z8 Z Z c6<|aC Z<|aw Z c6 Z<|ab Z<|z6<|zg<|zn (x:=.bool _) Z ?_
      exact jb (by rw[w3];unfold dk iu bB;simp at *<;>omega)
     ·refine z7 Z Z c7<|z7 Z Z c7<|z7 Z Z c7<|z7 Z Z c7<|z8 Z Z c6<|ax Z c7 Z<|z8 Z Z c6<|aC Z<|aw Z c6 Z<|ab Z<|z6<|zg<|zn (x:=.bool _) Z ?_
      exact jb (by rw[w3];unfold dk iu bB;simp at *<;>omega)
    ·refine z7 Z Z c6<|z7 Z Z c6<|z7 Z Z c6<|zk Z Z<|zk Z Z<|zk Z Z<|zk Z Z<|z7 Z Z c6<|z7 Z Z c6<|ax Z c6 Z<|ab Z<|z6<|zg<|zn (x:=.bool _) Z ?_
     exact jb (by rw[w3];unfold dk iu bB;simp at *<;>omega)
   ·refine z7 Z Z c5<|z7 Z Z c5<|z7 Z Z c5<|z7 Z Z c5<|ax Z c5 Z<|aC Z<|aj Z<|z8 Z Z Z<|aa Z<|z8 Z Z Z<|aZ Z Z<|z8 Z Z Z<|aj Z<|zq (s:=48) Z (fun c8=>?_) (fun c8=>?_)
    ·refine z8 Z Z c8<|aa Z<|z8 Z Z c8<|aa Z<|z8 Z Z c8<|za (Gv.add Z Z (by unfold lE;simp at *;omega))<|z8 Z Z c8<|ay Z Z<|z8 Z Z Z<|aw Z c8 Z<|z8 Z Z Z<|aC Z<|aw Z Z Z<|ab Z<|z6<|zg<|zn (x:=.bool _) Z ?_
     exact jb (by rw[w3];unfold dk iu bB;simp at *<;>omega)
    ·refine z7 Z Z c8<|z7 Z Z c8<|z7 Z Z c8<|z7 Z Z c8<|z8 Z Z Z<|ax Z c8 Z<|z8 Z Z Z<|aC Z<|aw Z Z Z<|ab Z<|z6<|zg<|zn (x:=.bool _) Z ?_
     exact jb (by rw[w3];unfold dk iu bB;simp at *<;>omega)
  ·have hk2:k=2:=by omega
   subst hk2
   refine zi<|zd<|zd<|ye (γ:=Bool) [1,2] (fun u=>[(61,.bool u)]) (fun u=>[]) (fun u=>u=decide (x=0∨y=0)) ?_ (fun _ _ h=>h) ?_
   ·refine aW<|aa Z<|ak Z Z<|aj Z<|zq (s:=58) Z (fun c9=>?_) (fun c9=>?_)
    ·refine z7 Z Z c9<|z7 Z Z c9<|aw Z c9 Z<|z6 ?_
     exact ⟨_,eo,aK,aH,by simp_all⟩
    ·refine z8 Z Z c9<|aa Z<|z8 Z Z c9<|ak Z Z<|ax Z c9 Z<|z6 ?_
     exact ⟨_,eo,aK,aH,by simp_all⟩
   ·rintro u hu
    subst hu
    refine zt Z (fun cz=>?_) (fun cz=>?_)
    ·refine ai<|ab Z<|z6<|zg<|zn (x:=.bool _) Z ?_
     exact jb (by rw[w8];unfold dk;rw[show iu 2 x y=x*y from rfl];rcases cz with h|h<;>rw[h]<;>simp[bB])
    ·have hx0:x≠0:=fun e=>cz (.inl e)
     have hy0:y≠0:=fun e=>cz (.inr e)
     refine zi<|ai<|aa Z<|ay Z Z<|aa Z<|ay Z Z<|za (Gv.eqlB Y7 Z Z)<|ab Z<|z6<|ai<|aa Z<|za (qm Zs Zk Z)<|aa Z<|za (qm Zs Zk Z)<|ao Z<|ao Z<|z6<|zd<|ai<|aa Z<|ay Z Z<|z6<|ye (γ:=Int) [2,7,9] (fun u=>[(8,.int .u64 u)]) (fun u=>[]) (fun u=>u=(x.natAbs:Int)) ?_ (fun _ _ h=>h) ?_
     ·refine zt Z (fun c=>?_) (fun c=>?_)
      ·refine aW<|aa Z<|za (Gv.neg Z)<|ao Z<|z6 ?_
       exact ⟨_,db,aK,aH,by have:=kH hx;rwa [if_pos c] at this⟩
      ·refine zi ?_
       exact ⟨_,db,aK,aH,by have:=kH hx;rwa [if_neg c] at this⟩
     ·rintro u hu
      subst hu
      refine zd<|ai<|aa Z<|ay Z Z<|z6<|ye (γ:=Int) [7,8] (fun u=>[(9,.int .u64 u)]) (fun u=>[]) (fun u=>u=(y.natAbs:Int)) ?_ (fun _ _ h=>h) ?_
      ·refine zt Z (fun c=>?_) (fun c=>?_)
       ·refine aW<|aa Z<|za (Gv.neg Z)<|ao Z<|z6 ?_
        exact ⟨_,eo,aK,aH,by have:=kH hy;rwa [if_pos c] at this⟩
       ·refine zi ?_
        exact ⟨_,eo,aK,aH,by have:=kH hy;rwa [if_neg c] at this⟩
      ·rintro u hu
       subst hu
       refine ai<|ao Z<|z6<|zd<|ai<|aj Z<|aC Z<|z6<|ye (γ:=Int) [8,9] (fun u=>[(10,.int .u64 u)]) (fun u=>[]) (fun u=>u=(if (decide (x<0) == decide (y<0))=true then 9223372036854775807 else 9223372036854775808)) ?_ (fun _ _ h=>h) ?_
       ·refine zy Z (fun c=>?_) (fun c=>?_)
        ·refine aW<|ao Z<|z6 ?_
         exact ⟨_,eo,aK,aH,by rw[if_neg (by simpa using c)]⟩
        ·refine zi ?_
         exact ⟨_,eo,aK,aH,by rw[if_pos (by simpa using c)]⟩
       ·rintro u hu
        subst hu
        refine ai<|aa Z<|aa Z<|aa Z<|za (Gv.quo Z Z (by omega))<|za (Gv.leq Z Z)<|ab Z<|z6<|zg<|zn (x:=.bool _) Z ?_
        exact jb (Is hx hx0 hy0)
theorem H5 {k:Nat} (hk:k≤2) {x y:Int}:aM prog E 89 [.int .i64 k,.int .i64 x,.int .i64 y] (.int .i64 (IntKind.i64.wrap (iu k x y))):=by
 refine zp func89 Z (by decide) Z<|ai<|ao Z<|z6<|zd<|ai<|aa Z<|z6<|zm<|ai<|ak Z Z<|ab Z<|z6<|zt Z (fun c0=>?_) (fun c0=>?_)
 ·have hk0:k=0:=by omega
  subst hk0
  refine ai<|aa Z<|za (qm Zs Zk Z)<|aa Z<|za (qm Zs Zk Z)<|za (Gv.addW Z Z)<|za (qm Zk Zs Z)<|ao Z<|z6<|zg<|zn (x:=.int _ _) Z ?_
  exact congrArg (AV.int .i64) (AB x y)
 ·refine ai<|ak Z Z<|ab Z<|z6<|zt Z (fun c1=>?_) (fun c1=>?_)
  ·have hk1:k=1:=by omega
   subst hk1
   refine ai<|aa Z<|za (qm Zs Zk Z)<|aa Z<|za (qm Zs Zk Z)<|za (Gv.subW Z Z)<|za (qm Zk Zs Z)<|ao Z<|z6<|zg<|zn (x:=.int _ _) Z ?_
   exact congrArg (AV.int .i64) (AC x y)
  ·have hk2:k=2:=by omega
   subst hk2
   refine zi<|ai<|aa Z<|za (qm Zs Zk Z)<|aa Z<|za (qm Zs Zk Z)<|za (Gv.mulW Z Z)<|za (qm Zk Zs Z)<|ao Z<|z6<|zg<|zn (x:=.int _ _) Z ?_
   exact congrArg (AV.int .i64) (AD x y)
theorem H6 {x y:Int} (hy:y≠0):aM prog E 90 [.int .i64 x,.int .i64 y] (.tup [.int .i64 (IntKind.i64.wrap (x.tdiv y)),.int .i64 (if y=-1 then 0 else IntKind.i64.wrap (x - IntKind.i64.wrap (IntKind.i64.wrap (x.tdiv y)*y)))]):=by
 refine zp func90 Z (by decide) Z<|ai<|ao Z<|ao Z<|z6<|zd<|ai<|aa Z<|ak Z Z<|z6<|zt Z (fun c=>?_) (fun c=>?_)
 ·refine ai<|aa Z<|za (qm Zs Zk Z)<|za (Gv.neg Z)<|za (qm Zk Zs Z)<|ao Z<|ao Z<|z6<|zg<|qd (x:=.int _ _) (y:=.int _ _) Z Z ?_
  rw[if_pos c,c,AE];try rfl
 ·refine zi<|zd<|zr (fun j=>false) (by kernel_rfl) Z (zj (.rest _))<|ad 0 Z (cD Z)<|ad 1 Z (cD Z)<|ad 2 Z (Gv.quo Z Z (by omega))<|ad 3 Z (cD Z)<|ad 4 Z (cD Z)<|ad 5 Z (cD Z)<|ad 6 Z (Gv.quo Z Z (by omega))<|ad 7 Z (cD Z)<|ad 8 Z (Gv.mulW Z Z)<|ad 9 Z (Gv.subW Z Z)<|ad 10 Z (mY Z)<|ad 11 Z (mY Z)<|bI<|zg<|qd (x:=.int _ _) (y:=.int _ _) Z Z ?_
  rw[if_neg c];try rfl
end Go.Proofs.YtdilpodccjlkgaaGreatDoor
namespace Go.Proofs.YtdilpodccjlkgaaGreatDoor
open Go.Proofs.Tryz
def jD (P:Program) (E:World) (l:List Oper) (Q:aR→OL→Prop) (fuel:Nat) (listed:Array Bool) (env:aR) (R Om:OL):Prop:=
 ∀I F ρ w Lr,eC I env ρ→bw I R Lr→gG I Om (Lr++F) E w→cH P l.toArray (ed I.k Lr E) (ed I.k Lr E) (fun _=>false) (ir I F E Q) fuel listed ρ w
section
variable {E:World} {P:Program} {n:Nat} {l:List Oper} {Q:aR→OL→Prop} {fuel:Nat} {listed:Array Bool} {env:aR} {O R Om:OL}
variable {d ty:Nat} {op:Op} {pos:String} {af:Array Edge}
theorem dJ.regionDrawR {Q:Exit→aR→OL→Prop} {id:Nat} (hm:P.follows .mixedOrders=true) (hd:gB n l=true) (hO:O.Perm (Om++R)) (h:jD P E l (Q .normal) l.length (Array.replicate l.length false) env R Om):dJ P E n (.region id l.toArray true) Q env O:=fun I F ρ w h1 h2=>by
 obtain ⟨Lr,hLr,h3⟩:=h2.split hO
 refine WP.regionDraw (ed I.k Lr E) (ed I.k Lr E) (fun _=>false) hm hd fun w' hw=>?_
 subst hw
 refine h I F ρ _ Lr h1 hLr ?_
 obtain ⟨ht,L,hL,hS⟩:=h3
 exact ⟨ht,L,hL,hS.drew⟩
theorem jD.takeK {i:Nat} {x:AV} (hi:l[i]?=some (Oper.mk (some d) op ty pos af none)) (hs:Region.noSelect l.toArray=true) (hf:Region.free .any l.toArray listed i=true)
  (hr:(Region.ready .any l.toArray listed).contains i=true) (hg:Gv P env R (Oper.mk (some d) op ty pos af none) x)
  (h:jD P E l Q fuel (listed.setIfInBounds i true) (bq env d x) R Om):jD P E l Q (fuel+1) listed env R Om:=fun I F ρ w Lr h1 hLr h2=>by
 obtain ⟨v,hv,hrun⟩:=hg I Lr E ρ h1 hLr
 exact cH.takeK hi hs hf hr rfl h2.here (.inr h2.here) (fun w ⟨J,L',a,b,c⟩=>hrun w J L' a b c) (h I F _ w Lr (h1.upd d hv) hLr h2)
theorem jD.one {i:Nat} {o:Oper} (hi:l[i]?=some o) (hr:Region.ready .any l.toArray listed=[i])
  (h:az P E l.toArray (fun env' Om'=>jD P E l Q fuel (listed.setIfInBounds i true) env' R Om') [o] env Om):jD P E l Q (fuel+1) listed env R Om:=fun I F ρ w Lr h1 hLr h2=>
 cH.one hi hr (q6 (fun ρ' w' ⟨J,env',Om',a,b,c,d⟩=>by
  have hst:ed I.k Lr E w':=by
   obtain ⟨J',L',h3,h4,h5⟩:=c.here
   exact ⟨J',L',a.k.trans h3,h4,h5⟩
  refine ⟨⟨hst,.inr hst⟩,cH.mono ?_ ?_ (fun _ _=>q7 a) _ _ _ _ (d J F ρ' w' Lr b (hLr.mono a) c)⟩
  ·rintro w ⟨J',L',h3,h4⟩;exact ⟨J',L',a.k.trans h3,h4⟩
  ·rintro w ⟨J',L',h3,h4⟩;exact ⟨J',L',a.k.trans h3,h4⟩) _ _ _ (h I (Lr++F) ρ w h1 h2))
theorem jD.done (hr:Region.ready .any l.toArray listed=[]) (h:Q env (R++Om)):jD P E l Q fuel listed env R Om:=fun I F ρ w Lr h1 hLr h2=>
 cH.done hr ⟨I,env,R++Om,.refl _,h1,gG.together hLr h2,h⟩
end
end Go.Proofs.YtdilpodccjlkgaaGreatDoor
namespace Go.Proofs.YtdilpodccjlkgaaGreatDoor
open Go.Proofs.Tryz
def Fz (X:OL):bA:=.heapG (fun I L=>∃L',bw I X L'∧L.Perm L') fun I J L h hp=>by obtain ⟨L',h1,h2⟩:=hp;exact ⟨L',h1.mono h,h2⟩
section
variable {E:World} {env:aR} {O O1 O':OL} {m i:Nat} {o:bA} {X X':OL}
theorem aS.bagNew:aS E env O env ((0,Fz [])::O):=fun I F ρ w h1 ⟨ht,L,hL,hS⟩=>⟨I,.refl _,h1,ht,L,⟨[],L,rfl,⟨[],rfl,.refl _⟩,hL⟩,hS⟩
theorem aS.bagOut (hX:X.Perm ((i,o)::X')) (hO:fR O m (Fz X) (Fz X') O'):aS E env O env ((i,o)::O'):=fun I F ρ w h1 ⟨ht,L,hL,hS⟩=>by
 obtain ⟨A,B,hp,⟨L',hA,hpA⟩,hback⟩:=hO.rep hL
 obtain ⟨L2,h2,h3⟩:=hA.perm hX
 obtain ⟨C,D,rfl,h4,h5⟩:=h2
 obtain ⟨L3,h6,h7⟩:=hback (qf I) (A':=D) ⟨D,h5,.refl _⟩
 refine ⟨I,.refl _,h1,ht,C++L3,⟨C,L3,Z,h4,h6⟩,hS.perm (List.Perm.append_right F ?_)⟩
 refine (h7.append_left C).trans ?_
 rw[←qv]
 exact (((hpA.trans h3).append_right B).symm).trans hp.symm
theorem aS.bagIn (hP:dA O i o O1) (hX:((i,o)::X).Perm X') (hO:fR O1 m (Fz X) (Fz X') O'):aS E env O env O':=fun I F ρ w h1 ⟨ht,L,hL,hS⟩=>by
 obtain ⟨A,B,hp,hA,hB⟩:=hP.rep hL
 obtain ⟨A2,B2,hp2,⟨L',h3,h4⟩,hback⟩:=hO.rep hB
 obtain ⟨L4,h5,h6⟩:=(show bw I ((i,o)::X) (A++L') from ⟨A,L',rfl,hA,h3⟩).perm hX
 obtain ⟨L5,h7,h8⟩:=hback (qf I) (A':=A++A2) ⟨L4,h5,(h4.append_left A).trans h6⟩
 refine ⟨I,.refl _,h1,ht,L5,h7,hS.perm (List.Perm.append_right F ?_)⟩
 refine h8.trans ?_
 rw[qv]
 exact ((hp2.append_left A).symm).trans hp.symm
end
theorem tY {α β γ:Type} (g:α→β→γ):∀(xs:List α) (ys:List β) (j:Nat) {a:α} {b:β},xs[j]?=some a→ys[j]?=some b→∃X,(List.zipWith g xs ys).Perm (g a b::X)∧∀a' b',(g a' b'::X).Perm (List.zipWith g (xs.set j a') (ys.set j b'))
 |[],_,j,_,_,h,_=>by simp at h
 |_::_,[],j,_,_,_,h=>by simp at h
 |x::xs,y::ys,0,a,b,h1,h2=>by
  simp at h1 h2
  subst h1 h2
  exact ⟨List.zipWith g xs ys,.refl _,fun _ _=>.refl _⟩
 |x::xs,y::ys,j+1,a,b,h1,h2=>by
  obtain ⟨X,h3,h4⟩:=tY g xs ys j (by simpa using h1) (by simpa using h2)
  refine ⟨g x y::X,(h3.cons _).trans (.swap _ _ _),fun a' b'=>?_⟩
  exact (List.Perm.swap _ _ _).trans ((h4 a' b').cons _)
section
variable {E:World} {env:aR} {O O1 O':OL} {m i k:Nat} {T:TypeId} {cs cs':List AV} {X:OL}
end
end Go.Proofs.YtdilpodccjlkgaaGreatDoor
namespace Go.Proofs.YtdilpodccjlkgaaGreatDoor
open Go.Proofs.Tryz
open Go.Proofs Go.Lib Go.Shelf Go.RowKit
variable {E:World}
set_option maxRecDepth 20000
def ik (ids:List Nat) (rs:List (List Int)):List AV:=List.zipWith (fun i r=>AV.own i r.length) ids rs
def FA (i:Nat) (r:List Int):Nat × bA:=(i,.grow 1 2 (cI r))
def rm (ids:List Nat) (rs:List (List Int)):OL:=List.zipWith FA ids rs
theorem jE {ids:List Nat} {rs:List (List Int)} (h:ids.length=rs.length):(ik ids rs).length=rs.length:=by unfold ik;simp[h]
theorem jF:∀{ids:List Nat} {rs:List (List Int)} {j i:Nat} {r:List Int},ids[j]?=some i→rs[j]?=some r→(ik ids rs).drop j=.own i r.length::(ik ids rs).drop (j+1)
 |[],_,_,_,_,h,_=>by simp at h
 |_::_,[],_,_,_,_,h=>by simp at h
 |i::ids,r::rs,0,_,_,h1,h2=>by
  simp at h1 h2
  subst h1 h2;rfl
 |_::ids,_::rs,j+1,i,r,h1,h2=>jF (ids:=ids) (rs:=rs) (by simpa using h1) (by simpa using h2)
theorem tZ {ids:List Nat} {rs:List (List Int)} (h:ids.length=rs.length) {j:Nat} (hj:j<rs.length):∃i,ids[j]?=some i:=⟨_,qt (by omega)⟩
theorem rS {l:List Int} {k:Nat} (h:k<l.length):l[k]?=some ((l[k]?).getD 0):=by
 rw[qt h];rfl
abbrev FB (f:ac) (ja jb jc jo jt:Nat) (s:GS):List AV:=bE f++[.own ja f.vars.length,.own jb f.vars.length,.own jc f.vars.length,.own jo s.arrays.length,.int .i64 s.blk,.int .i64 s.pc,.int .i64 s.en,.int .i64 s.val,.int .i64 s.tr,.own jt s.trace.length,.int .i64 s.st,.int .i64 (s.ck 0),.int .i64 (s.ck 1),.int .i64 (s.ck 2),.int .i64 (s.ck 3),.int .i64 (s.ck 4),.int .i64 (s.ck 5),.int .i64 (s.ck 6),.int .i64 (s.ck 7),.bool s.ended]
abbrev wR (ja jb jc jo jt:Nat) (ids:List Nat) (s:GS):OL:=[(ja,.grow 1 2 (cI s.ints)),(jb,.grow 1 4 (cB s.bools)),(jc,.grow 1 3 (cI s.arrs)),(jo,.grow 1 87 (ik ids s.arrays)),(jt,.grow 1 2 (cI s.trace)),(0,Fz (rm ids s.arrays))]
abbrev wO (f:ac) (iw ja jb jc jo jt:Nat) (ids:List Nat) (s:GS):OL:=(iw,.cells 99 (FB f ja jb jc jo jt s))::wR ja jb jc jo jt ids s
theorem eu (f:ac) (iw ja jb jc jo jt:Nat) (ids:List Nat) (s:GS) (e:Int):aY prog E 53 [.po iw 0,.int .i64 e] (wO f iw ja jb jc jo jt ids s) (fun y O=>y=.tup []∧O=wO f iw ja jb jc jo jt ids (dw s e)):=by
 refine zp func53 Z (by decide) Z<|aW<|aJ Z<|aJ Z<|aa Z<|ap Z<|za (zf j8 Z Y6 (by decide) Z Z)<|za (zf Ze Z sizeOf93 (by decide) Z Z)<|yq (l:=[_]) (new:=[_,_,_,_,_,_,_,_,_,_,_,_,_,_,_,_,_,_,_,_,_,_,_]) sizeOf93 Z Z Z Z Z Z .head Z Z<|ap Z<|za (zf j8 Z Z6 (by decide) Z Z)<|yq (l:=[_]) (new:=[_,_,_,_,_,_,_,_,_,_,_,_,_,_,_,_,_,_,_,_,_,_,_]) Z6 Z Z Z Z Z Z .head Z Z<|z6<|yl ?_
 exact ⟨rfl,rfl⟩
theorem k8 (f:ac) (iw ja jb jc jo jt:Nat) (ids:List Nat) (s:GS) (a i:Int) (hids:ids.length=s.arrays.length):aY prog E 91 [.po iw 0,.int .i64 a,.int .i64 i] (wO f iw ja jb jc jo jt ids s) (fun y O=>y=.bool (di s a i)∧O=wO f iw ja jb jc jo jt ids s):=by
 refine zp func91 Z (by decide) Z<|ai<|ab Z<|z6<|ai<|aa Z<|za (q5 Z Z)<|aj Z<|zq (s:=9) Z (fun c1=>?_) (fun c1=>?_)
 ·have h1:0≤a:=by simpa using c1
  refine z8 Z Z c1<|aa Z<|z8 Z Z c1<|aJ Z<|z8 Z Z c1<|ap Z<|z8 Z Z c1<|za (zf j8 Z Yi (by decide) Z Z)<|z8 Z Z c1<|za (zo (c:=.own _ _) X7 Z ⟨_,.head⟩ Z)<|z8 Z Z c1<|za (qo Zj Z)<|z8 Z Z c1<|ay Z Z<|aw Z c1 Z<|aj Z<|zq (s:=18) Z (fun c2=>?_) (fun c2=>?_)
  ·have h2:a<s.arrays.length:=by simpa using c2
   refine z8 Z Z c2<|aa Z<|z8 Z Z c2<|za (q5 Z Z)<|aw Z c2 Z<|aj Z<|zq (s:=22) Z (fun c3=>?_) (fun c3=>?_)
   ·have h3:0≤i:=by simpa using c3
    obtain ⟨q,hq⟩:=tZ hids (j:=a.toNat) (by omega)
    refine z8 Z Z c3<|aa Z<|z8 Z Z c3<|aJ Z<|z8 Z Z c3<|ap Z<|z8 Z Z c3<|za (zf j8 Z Yi (by decide) Z Z)<|z8 Z Z c3<|za (zo (c:=.own _ _) X7 Z ⟨_,.head⟩ Z)<|z8 Z Z c3<|aa Z<|z8 Z Z c3<|za (yi (j:=a.toNat) Zj Zu Z Z (by omega) ⟨_,.t4⟩ (jE hids) (by omega))<|z8 Z Z c3<|za (Gv.load1G (c:=_) Yf Z ⟨_,.t4⟩ (jF hq (iy h1 h2)))<|z8 Z Z c3<|za (qo jw Z)<|z8 Z Z c3<|ay Z Z<|aw Z c3 Z<|ab Z<|z6<|zg<|zn (x:=.bool _) Z ?_
    exact ⟨congrArg AV.bool (by unfold di;simp[h1,h2,h3]),rfl⟩
   ·have h3:¬0≤i:=by simpa using c3
    refine z7 Z Z c3<|z7 Z Z c3<|z7 Z Z c3<|z7 Z Z c3<|z7 Z Z c3<|z7 Z Z c3<|z7 Z Z c3<|z7 Z Z c3<|z7 Z Z c3<|z7 Z Z c3<|ax Z c3 Z<|ab Z<|z6<|zg<|zn (x:=.bool _) Z ?_
    exact ⟨congrArg AV.bool (by unfold di;simp[h1,h2,h3]),rfl⟩
  ·have h2:¬a<s.arrays.length:=by simpa using c2
   refine z7 Z Z c2<|z7 Z Z c2<|ax Z c2 Z<|aj Z<|z7 Z Z Z<|z7 Z Z Z<|z7 Z Z Z<|z7 Z Z Z<|z7 Z Z Z<|z7 Z Z Z<|z7 Z Z Z<|z7 Z Z Z<|z7 Z Z Z<|z7 Z Z Z<|ax Z Z Z<|ab Z<|z6<|zg<|zn (x:=.bool _) Z ?_
   exact ⟨congrArg AV.bool (by unfold di;simp[h1,h2]),rfl⟩
 ·have h1:¬0≤a:=by simpa using c1
  refine z7 Z Z c1<|z7 Z Z c1<|z7 Z Z c1<|z7 Z Z c1<|z7 Z Z c1<|z7 Z Z c1<|z7 Z Z c1<|ax Z c1 Z<|aj Z<|z7 Z Z Z<|z7 Z Z Z<|ax Z Z Z<|aj Z<|z7 Z Z Z<|z7 Z Z Z<|z7 Z Z Z<|z7 Z Z Z<|z7 Z Z Z<|z7 Z Z Z<|z7 Z Z Z<|z7 Z Z Z<|z7 Z Z Z<|z7 Z Z Z<|ax Z Z Z<|ab Z<|z6<|zg<|zn (x:=.bool _) Z ?_
  exact ⟨congrArg AV.bool (by unfold di;simp[h1]),rfl⟩
theorem BU:∀j:Nat,j<27→∀k:Nat,k<27→decide ((bY (j:Int)).1=(bY (k:Int)).1)=decide (j=k):=by decide
theorem aT {op:Int} (h:0≤op∧op≤26) (k:Nat) (hk:k<27) {b:ByteArray} (hb:(bY (k:Int)).1=b):((bY op).1=b)↔op=(k:Int):=by
 subst hb
 obtain ⟨j,rfl⟩:∃j:Nat,op=(j:Int):=⟨op.toNat,by omega⟩
 have:=BU j (by omega) k hk
 rw[decide_eq_decide] at this
 rw[this];omega
def x8 (f:ac) (op:Int) (l:List Int):Prop:=18≤op∧op≤24∧0<l.length∧∀v∈l,v<f.vars.length∧0≤v
theorem Ai {f:ac} {op:Int} {l:List Int} (h:x8 f op l) {k:Nat} (hk:k<l.length):(l[k]?).getD 0<f.vars.length∧0≤(l[k]?).getD 0:=by
 rw[qt hk];exact h.2.2.2 _ (qx hk)
theorem ua (f:ac) (iw ja jb jc jo jt:Nat) (ids:List Nat) (s:GS) (op:Int) (l:List Int) (hids:ids.length=s.arrays.length) (hg:bn f s) (ho:x8 f op l):aY prog E 88 [.po iw 0,.str (bY op).1,.fro 1 (l.map cX)] (wO f iw ja jb jc jo jt ids s) (fun y O=>y=.bool (ee s op l)∧O=wO f iw ja jb jc jo jt ids s):=by
 have hop:0≤op∧op≤26:=by have:=ho.1;have:=ho.2.1;omega
 obtain ⟨q0,r0⟩:=Ai ho ho.2.2.1
 obtain ⟨v0,hv0⟩:∃v,(l[0]?).getD 0=v:=⟨_,rfl⟩
 rw[hv0] at q0 r0
 have hl1:=hg.li
 have hl3:=hg.la
 have ha64:bB (vi s.ints v0):=qC hg.i64
 refine zp func88 Z (by decide) Z<|ai<|ab Z<|z6<|zd<|zr (fun j=>false) (by kernel_rfl) Z (zj (.r (.r (.rest _))))<|ad 0 Z (cJ Z)<|ad 1 Z (zw Z)<|ad 2 Z (zf j8 Z Zu (by decide) Z Z)<|ad 3 Z (zo (c:=.own _ _) Yf Z ⟨_,.head⟩ Z)<|ad 4 Z (wt Z)<|ad 5 Z (bv 0 wy wz Z Z Z ((rS ho.2.2.1).trans (by rw[hv0]))) ?_
 refine ad 6 Z (cQ j6 Z)<|ad 7 Z (yi (j:=v0.toNat) jw Z5 Z Z (by omega) ⟨_,.t1⟩ ((aD _).trans hl1) (by omega))<|ad 8 Z (yz (j:=v0.toNat) Zx Z ⟨_,.t1⟩ (gf (by omega) r0))<|ad 9 Z (mY Z)<|bI<|ai<|ao Z<|z6<|zd<|ai<|be Z<|aq wy Z<|aZ Z Z<|z6<|ye (γ:=Int) [0,1,2,7] (fun u=>[(8,.int .i64 u)]) (fun u=>wO f iw ja jb jc jo jt ids s) (fun u=>u=zK l s.ints) ?_ (fun _ _ h=>h) ?_
 ·refine zt Z (fun c=>?_) (fun c=>?_)
  ·have c:1<l.length:=by omega
   obtain ⟨q1,r1⟩:=Ai ho c
   obtain ⟨v1,hv1⟩:∃v,(l[1]?).getD 0=v:=⟨_,rfl⟩
   rw[hv1] at q1 r1
   refine zr (fun j=>false) (by kernel_rfl) Z (zj (.r (.r (.rest _))))<|ad 0 Z (cJ Z)<|ad 1 Z (zw Z)<|ad 2 Z (zf j8 Z Zu (by decide) Z Z)<|ad 3 Z (zo (c:=.own _ _) Yf Z ⟨_,.head⟩ Z)<|ad 4 Z (wt Z)<|ad 5 Z (bv 1 wy wz Z Z Z ((rS c).trans (by rw[hv1]))) ?_
   refine ad 6 Z (cQ j6 Z)<|ad 7 Z (yi (j:=v1.toNat) jw Z5 Z Z (by omega) ⟨_,.t1⟩ ((aD _).trans hl1) (by omega))<|ad 8 Z (yz (j:=v1.toNat) Zx Z ⟨_,.t1⟩ (gf (by omega) r1))<|ad 9 Z (mY Z)<|bI ?_
   exact ⟨_,gH,aK,aH,by unfold zK;rw[if_pos c,hv1]⟩
  ·have c:¬1<l.length:=by omega
   refine zi ?_
   exact ⟨_,gH,aK,aH,by unfold zK;rw[if_neg c]⟩
 ·rintro u hu
  have hb64:bB u:=by
   rw[hu];unfold zK;split
   ·exact qC hg.i64
   ·exact ⟨by decide,by decide⟩
  refine zd<|ai<|za (yv (v:=.str _) Z)<|z6<|zm<|ai<|za (q4 Z Z)<|ab Z<|z6<|zt Z (fun c18=>?_) (fun c18=>?_)
  ·have e:op=18:=(aT hop 18 (by decide) rfl).1 c18
   refine zd<|zr (fun j=>false) (by kernel_rfl) Z (zj (.rest _))<|ad 0 Z (cJ Z)<|ad 1 Z (cJ Z)<|ad 2 Z (zw Z)<|ad 3 Z (zf j8 Z j7 (by decide) Z Z)<|ad 5 Z (wt Z)<|ad 6 Z (bv 0 wy wz Z Z Z ((rS ho.2.2.1).trans (by rw[hv0]))) ?_
   refine ad 7 Z (cQ j6 Z)<|ad 10 Z (cD Z)<|aQ 4 Z<|za (zo (c:=.own _ _) jf Z ⟨_,.head⟩ Z)<|z6<|aQ 8 Z<|za (yi (j:=v0.toNat) wy wz Z Z (by omega) ⟨_,.t3⟩ ((aD _).trans hl3) (by omega))<|z6<|aQ 9 Z<|za (yz (j:=v0.toNat) j6 Z ⟨_,.t3⟩ (gf (by omega) r0))<|z6<|aQ 11 Z<|zu Z (zj (.l (.l (.l (.l (.l (.l (.l (.rest _))))))))) (k8 f iw ja jb jc jo jt ids s (vi s.arrs v0) u hids) ?_
   rintro r44 O44 ⟨rfl,rfl⟩
   refine z6<|ad 12 Z (ms Z)<|bI<|zg<|zn (x:=.bool _) Z ?_
   exact ⟨by unfold ee;rw[if_pos e,hv0,hu],rfl⟩
  ·have n18:¬op=18:=fun e=>c18 ((aT hop 18 (by decide) rfl).2 e)
   refine ai<|za (q4 Z Z)<|ab Z<|z6<|zt Z (fun c19=>?_) (fun c19=>?_)
   ·have e:op=19:=(aT hop 19 (by decide) rfl).1 c19
    refine zd<|zr (fun j=>false) (by kernel_rfl) Z (zj (.r (.l (.l (.r (.rest _))))))<|ad 0 Z (cJ Z)<|ad 1 Z (zw Z)<|ad 2 Z (zf j8 Z j7 (by decide) Z Z)<|ad 3 Z (zo (c:=.own _ _) jf Z ⟨_,.head⟩ Z)<|ad 4 Z (wt Z)<|ad 5 Z (bv 0 wy wz Z Z Z ((rS ho.2.2.1).trans (by rw[hv0]))) ?_
    refine ad 6 Z (cQ j6 Z)<|ad 7 Z (yi (j:=v0.toNat) wy wz Z Z (by omega) ⟨_,.t1⟩ ((aD _).trans hl3) (by omega))<|ad 8 Z (yz (j:=v0.toNat) j6 Z ⟨_,.t1⟩ (gf (by omega) r0))<|ad 9 Z (q5 Z Z)<|ad 10 Z (ms Z)<|bI<|zz (zb (zc .t3))<|zz (zb (zc .t3))<|zz (zb (zc .t2))<|zg<|zn (x:=.bool _) Z ?_
    exact ⟨by unfold ee;rw[if_neg n18,if_pos e,hv0],rfl⟩
   ·have n19:¬op=19:=fun e=>c19 ((aT hop 19 (by decide) rfl).2 e)
    refine ai<|za (q4 Z Z)<|ab Z<|z6<|zt Z (fun c20=>?_) (fun c20=>?_)
    ·have e:op=20:=(aT hop 20 (by decide) rfl).1 c20
     refine ai<|aa Z<|aO Z Z<|ab Z<|z6<|zg<|zn (x:=.bool _) Z ?_
     exact ⟨by unfold ee;rw[if_neg n18,if_neg n19,if_pos e,hv0];simp,rfl⟩
    ·have n20:¬op=20:=fun e=>c20 ((aT hop 20 (by decide) rfl).2 e)
     refine ai<|za (q4 Z Z)<|ab Z<|z6<|zt Z (fun c21=>?_) (fun c21=>?_)
     ·have e:op=21:=(aT hop 21 (by decide) rfl).1 c21
      refine ai<|aa Z<|aa Z<|zh (xZ (k:=0) (by decide) ha64 hb64) Z<|ab Z<|z6<|zg<|zn (x:=.bool _) Z ?_
      exact ⟨by unfold ee;rw[if_neg n18,if_neg n19,if_neg n20,if_pos e,hv0,hu],rfl⟩
     ·have n21:¬op=21:=fun e=>c21 ((aT hop 21 (by decide) rfl).2 e)
      refine ai<|za (q4 Z Z)<|ab Z<|z6<|zt Z (fun c22=>?_) (fun c22=>?_)
      ·have e:op=22:=(aT hop 22 (by decide) rfl).1 c22
       refine ai<|aa Z<|aa Z<|zh (xZ (k:=1) (by decide) ha64 hb64) Z<|ab Z<|z6<|zg<|zn (x:=.bool _) Z ?_
       exact ⟨by unfold ee;rw[if_neg n18,if_neg n19,if_neg n20,if_neg n21,if_pos e,hv0,hu],rfl⟩
      ·have n22:¬op=22:=fun e=>c22 ((aT hop 22 (by decide) rfl).2 e)
       refine ai<|za (q4 Z Z)<|ab Z<|z6<|zt Z (fun c23=>?_) (fun c23=>?_)
       ·have e:op=23:=(aT hop 23 (by decide) rfl).1 c23
        refine ai<|aa Z<|aa Z<|zh (xZ (k:=2) (by decide) ha64 hb64) Z<|ab Z<|z6<|zg<|zn (x:=.bool _) Z ?_
        exact ⟨by unfold ee;rw[if_neg n18,if_neg n19,if_neg n20,if_neg n21,if_neg n22,if_pos e,hv0,hu],rfl⟩
       ·have n23:¬op=23:=fun e=>c23 ((aT hop 23 (by decide) rfl).2 e)
        refine zi<|ai<|aa Z<|za (q5 Z Z)<|aj Z<|zq (s:=78) Z (fun cz=>?_) (fun cz=>?_)
        ·have h0:0≤vi s.ints v0:=by simpa using cz
         refine z8 Z Z cz<|aa Z<|z8 Z Z cz<|za (Gv.leq Z Z)<|aw Z cz Z<|ab Z<|z6<|zg<|zn (x:=.bool _) Z ?_
         exact ⟨congrArg AV.bool (by unfold ee;rw[if_neg n18,if_neg n19,if_neg n20,if_neg n21,if_neg n22,if_neg n23,hv0];simp[h0]),rfl⟩
        ·have h0:¬0≤vi s.ints v0:=by simpa using cz
         refine z7 Z Z cz<|z7 Z Z cz<|ax Z cz Z<|ab Z<|z6<|zg<|zn (x:=.bool _) Z ?_
         exact ⟨congrArg AV.bool (by unfold ee;rw[if_neg n18,if_neg n19,if_neg n20,if_neg n21,if_neg n22,if_neg n23,hv0];simp[h0]),rfl⟩
set_option linter.defProp false
def yc:=@jD.takeK
def qr:=@jD.one
end Go.Proofs.YtdilpodccjlkgaaGreatDoor
