/- Interface values; parts of what is read; methods. No conditions but bounds. -/
import Derived.Test.YthphijnnbfjikaaGreatDoorJc
import Derived.KernelRfl
import Derived.Laws.BytesArg
import Derived.ProofKit
import Derived.OpenShut
import Derived.Deep.Matrix
import Derived.Lib.LaidU8
import Derived.Lib.LaidTab
set_option linter.unusedVariables false
set_option linter.unusedSimpArgs false
set_option linter.unusedSectionVars false
namespace Go.Proofs.YthphijnnbfjikaaGreatDoor
section
theorem fJ {x y c:Int} (hx:0≤x) (hc:0<c) (h:c≤y):0≤x.tdiv y∧x.tdiv y≤x.tdiv c:=by
 obtain ⟨n,rfl⟩:=Int.eq_ofNat_of_zero_le hx
 obtain ⟨m,rfl⟩:=Int.eq_ofNat_of_zero_le (by omega:0≤y)
 obtain ⟨k,rfl⟩:=Int.eq_ofNat_of_zero_le (by omega:0≤c)
 have e1:((n:Int).tdiv (m:Int))=((n / m:Nat):Int):=rfl
 have e2:((n:Int).tdiv (k:Int))=((n / k:Nat):Int):=rfl
 rw[e1,e2]
 have:=Nat.div_le_div_left (a:=n) (by omega:k≤m) (by omega:0<k)
 exact ⟨Int.natCast_nonneg _,Int.ofNat_le.2 this⟩
theorem Fi {x a b y:Int} (hy:y≠0) (h1:a≤x) (h2:x≤b):ul (x.tdiv y) (a.tdiv y) (b.tdiv y):=by
 rcases Int.lt_or_gt_of_ne hy with h|h
 ·right
  have e:∀z:Int,z.tdiv y=-(z.tdiv (-y)):=fun z=>by rw[Int.tdiv_neg];omega
  rw[e x,e a,e b]
  have g1:=Int.tdiv_le_tdiv (c:=-y) (by omega) h1
  have g2:=Int.tdiv_le_tdiv (c:=-y) (by omega) h2
  omega
 ·exact .inl ⟨Int.tdiv_le_tdiv h h1,Int.tdiv_le_tdiv h h2⟩
theorem sC {x y c d:Int} (hc:0<c) (h1:c≤y) (h2:y≤d):ul (x.tdiv y) (x.tdiv c) (x.tdiv d):=by
 rcases Int.le_total 0 x with hx|hx
 ·right
  exact ⟨(fJ hx (by omega) h2).2,(fJ hx hc h1).2⟩
 ·left
  have e:∀z:Int,x.tdiv z=-((-x).tdiv z):=fun z=>by rw[Int.neg_tdiv];omega
  rw[e y,e c,e d]
  have g1:=(fJ (x:=-x) (by omega) (by omega) h2).2
  have g2:=(fJ (x:=-x) (by omega) hc h1).2
  omega
theorem AZ {x y c d:Int} (hd:d<0) (h1:c≤y) (h2:y≤d):ul (x.tdiv y) (x.tdiv c) (x.tdiv d):=by
 have e:∀z:Int,x.tdiv z=-(x.tdiv (-z)):=fun z=>by rw[Int.tdiv_neg];omega
 rw[e y,e c,e d]
 have:=sC (x:=x) (y:=-y) (c:=-d) (d:=-c) (by omega) (by omega) (by omega)
 unfold ul at *
 omega
def iC (a b:aA):aA:=du (de (a.1.tdiv b.1) (a.1.tdiv b.2)) (de (a.2.tdiv b.1) (a.2.tdiv b.2))
theorem qN {a b:aA} {x y:Int} (hb:0<b.1∨b.2<0) (hx:iJ x a) (hy:iJ y b):iJ (x.tdiv y) (iC a b):=by
 have hy0:y≠0:=by
  unfold iJ at hy
  rcases hb with h|h<;>omega
 have key:∀x:Int,ul (x.tdiv y) (x.tdiv b.1) (x.tdiv b.2):=fun x=>by
  rcases hb with h|h
  ·exact sC h hy.1 hy.2
  ·exact AZ h hy.1 hy.2
 exact vW (key a.1) (key a.2) (Fi hy0 hx.1 hx.2)
theorem jQ {a b:aA} {lo hi:Int} (h:∀x y,iJ x a→iJ y b→lo≤x.tdiv y∧x.tdiv y≤hi) (na:a.1≤a.2) (nb:b.1≤b.2):lo≤(iC a b).1∧(iC a b).2≤hi:=by
 have l1:iJ a.1 a:=⟨Int.le_refl _,na⟩
 have l2:iJ a.2 a:=⟨na,Int.le_refl _⟩
 have r1:iJ b.1 b:=⟨Int.le_refl _,nb⟩
 have r2:iJ b.2 b:=⟨nb,Int.le_refl _⟩
 exact gO (h _ _ l1 r1) (h _ _ l1 r2) (h _ _ l2 r1) (h _ _ l2 r2)
def dV (a b:aA):aA:=
 if a.1=dy∧b.1≤-1∧-1≤b.2 then (dy,dz) else
 if b.1=0∧b.2=0 then bw else
 if 0≤b.1 then iC a (if b.1=0 then 1 else b.1,b.2) else
 if b.2≤0 then iC a (b.1,if b.2=0 then -1 else b.2) else du (iC a (b.1,-1)) (iC a (1,b.2))
theorem Fj {a b:aA} {x y:Int} (hx:iJ x a) (hy:iJ y b) (h0:y≠0) (hno:¬(a.1=dy∧b.1≤-1∧-1≤b.2)):iJ (x.tdiv y) (dV a b):=by
 unfold dV
 unfold iJ at hy
 rw[if_neg hno,if_neg (by omega)]
 by_cases h1:0≤b.1
 ·rw[if_pos h1]
  exact qN (.inl (by dsimp only;split<;>omega)) hx ⟨by dsimp only;split<;>omega,by dsimp only;omega⟩
 ·rw[if_neg h1]
  by_cases h2:b.2≤0
  ·rw[if_pos h2]
   exact qN (.inr (by dsimp only;split<;>omega)) hx ⟨by dsimp only;omega,by dsimp only;split<;>omega⟩
  ·rw[if_neg h2]
   rcases Int.lt_or_gt_of_ne h0 with h|h
   ·have:=qN (a:=a) (b:=(b.1,-1)) (x:=x) (y:=y) (.inr (by dsimp only;omega)) hx ⟨by dsimp only;omega,by dsimp only;omega⟩
    unfold iJ du at *
    (repeat' split)<;>omega
   ·have:=qN (a:=a) (b:=(1,b.2)) (x:=x) (y:=y) (.inl (by dsimp only;omega)) hx ⟨by dsimp only;omega,by dsimp only;omega⟩
    unfold iJ du at *
    (repeat' split)<;>omega
theorem lB {a b:aA} {lo hi:Int} (h:∀x y,iJ x a→iJ y b→y≠0→lo≤x.tdiv y∧x.tdiv y≤hi) (na:a.1≤a.2) (nb:b.1≤b.2) (hno:¬(a.1=dy∧b.1≤-1∧-1≤b.2)):(dV a b).2<(dV a b).1∨(lo≤(dV a b).1∧(dV a b).2≤hi):=by
 unfold dV
 rw[if_neg hno]
 by_cases hz:b.1=0∧b.2=0
 ·rw[if_pos hz];left;decide
 ·rw[if_neg hz]
  right
  by_cases h1:0≤b.1
  ·rw[if_pos h1]
   refine jQ (fun x y hx hy=>?_) na (by dsimp only;split<;>omega)
   unfold iJ at hy
   dsimp only at hy
   exact h x y hx ⟨by split at hy<;>omega,hy.2⟩ (by split at hy<;>omega)
  ·rw[if_neg h1]
   by_cases h2:b.2≤0
   ·rw[if_pos h2]
    refine jQ (fun x y hx hy=>?_) na (by dsimp only;split<;>omega)
    unfold iJ at hy
    dsimp only at hy
    exact h x y hx ⟨hy.1,by split at hy<;>omega⟩ (by split at hy<;>omega)
   ·rw[if_neg h2]
    have g1:=jQ (a:=a) (b:=(b.1,-1)) (lo:=lo) (hi:=hi) (fun x y hx hy=>by
     unfold iJ at hy;dsimp only at hy
     exact h x y hx ⟨hy.1,by omega⟩ (by omega)) na (by dsimp only;omega)
    have g2:=jQ (a:=a) (b:=(1,b.2)) (lo:=lo) (hi:=hi) (fun x y hx hy=>by
     unfold iJ at hy;dsimp only at hy
     exact h x y hx ⟨by omega,hy.2⟩ (by omega)) na (by dsimp only;omega)
    unfold du
    constructor<;>split<;>omega
theorem A3 {a b:aA} {x y:Int} (ha:bb a) (hb:bb b) (hx:iJ x a) (hy:iJ y b) (hno:¬(a.1=dy∧b.1≤-1∧-1≤b.2)) (h0:y≠0):aK (x.tdiv y):=by
 have h1:=Int.natAbs_tdiv_le_natAbs x y
 unfold bb aK at *
 unfold iJ at *
 unfold dy at hno
 by_cases hm:x=-9223372036854775808
 ·have hy1:y≠-1:=by
   intro e
   apply hno
   omega
  subst hm
  rcases Int.lt_or_gt_of_ne h0 with h|h
  ·have:=(fJ (x:=9223372036854775808) (y:=-y) (c:=2) (by omega) (by omega) (by omega))
   have e:(-9223372036854775808:Int).tdiv y=(9223372036854775808:Int).tdiv (-y):=by
    rw[Int.tdiv_neg,←Int.neg_tdiv]
   rw[e]
   have e2:(9223372036854775808:Int).tdiv 2=4611686018427387904:=by decide
   rw[e2] at this
   omega
  ·have:=(fJ (x:=9223372036854775808) (y:=y) (c:=1) (by omega) (by omega) (by omega)).1
   have e:(-9223372036854775808:Int).tdiv y=-((9223372036854775808:Int).tdiv y):=by rw[←Int.neg_tdiv]
   omega
 ·omega
theorem A4 {a b a' b':aA} (ha:bb a) (hb:bb b) (na:a.1≤a.2) (nb:b.1≤b.2) (sa:a'.1≤a.1∧a.2≤a'.2) (sb:b'.1≤b.1∧b.2≤b'.2) (ha':dy≤a'.1):bQ (dV a b) (dV a' b'):=by
 by_cases hno':a'.1=dy∧b'.1≤-1∧-1≤b'.2
 ·have e:dV a' b'=(dy,dz):=by unfold dV;rw[if_pos hno']
  rw[e]
  by_cases hno:a.1=dy∧b.1≤-1∧-1≤b.2
  ·have e:dV a b=(dy,dz):=by unfold dV;rw[if_pos hno]
   rw[e];exact qc _
  ·exact lB (fun x y hx hy h0=>A3 ha hb hx hy hno h0) na nb hno
 ·have hno:¬(a.1=dy∧b.1≤-1∧-1≤b.2):=fun h=>hno' (by unfold dy at *;omega)
  exact lB (fun x y hx hy h0=>Fj (a:=a') (b:=b') ⟨by have:=hx.1;omega,by have:=hx.2;omega⟩ ⟨by have:=hy.1;omega,by have:=hy.2;omega⟩ h0 hno') na nb hno
end
section
def Ax (b:aA):Int:=bK (if b.1<0 then -b.1 else b.1) (if b.2<0 then -b.2 else b.2) - 1
def qO (a b:aA):aA:=if b.1=0∧b.2=0 then bw else (if a.1<0 then bK (-(Ax b)) a.1 else 0,if 0<a.2 then b5 (Ax b) a.2 else 0)
theorem A5 {a b a' b':aA} (na:a.1≤a.2) (nb:b.1≤b.2) (sa:a'.1≤a.1∧a.2≤a'.2) (sb:b'.1≤b.1∧b.2≤b'.2):bQ (qO a b) (qO a' b'):=by
 unfold qO
 by_cases h:b.1=0∧b.2=0
 ·rw[if_pos h];left;decide
 ·rw[if_neg h]
  by_cases h':b'.1=0∧b'.2=0
  ·exfalso;apply h;omega
  ·rw[if_neg h']
   right
   have hk:Ax b≤Ax b':=by unfold Ax bK;(repeat' split)<;>omega
   have h0:0≤Ax b:=by unfold Ax bK;(repeat' split)<;>omega
   constructor
   ·dsimp only;unfold bK;(repeat' split)<;>omega
   ·dsimp only;unfold b5;(repeat' split)<;>omega
def kZ (no yes:Bool):aA:=(if no then 0 else 1,if yes then 1 else 0)
theorem iV {n y n' y':Bool} (h1:n=true→n'=true) (h2:y=true→y'=true):bQ (kZ n y) (kZ n' y'):=by
 right
 cases n<;>cases y<;>cases n'<;>cases y'<;>simp_all[kZ]
def HW (a b:aA):aA:=kZ (!(decide (a.1=a.2)&&decide (a=b))) (!decide ((aR a b).2<(aR a b).1))
def GA (a b:aA):aA:=kZ (decide (b.1≤a.2)) (decide (a.1<b.2))
def HX (a b:aA):aA:=kZ (decide (b.1<a.2)) (decide (a.1≤b.2))
def A6 (a:aA):aA:=kZ (decide (a.2=1)) (decide (a.1=0))
def A7 (a b:aA):aA:=kZ (decide (a.1=0)||decide (b.1=0)) (decide (a.2=1)&&decide (b.2=1))
theorem qP {a b:aA}:(aR a b).2<(aR a b).1↔b5 a.2 b.2<bK a.1 b.1:=by
 unfold aR cG
 split
 ·rename_i h;exact ⟨fun _=>h,fun _=>by decide⟩
 ·exact Iff.rfl
theorem Do {a b a' b':aA} (na:a.1≤a.2) (nb:b.1≤b.2) (sa:a'.1≤a.1∧a.2≤a'.2) (sb:b'.1≤b.1∧b.2≤b'.2):bQ (HW a b) (HW a' b'):=by
 refine iV (fun h=>?_) (fun h=>?_)
 ·simp only[Bool.not_eq_true',Bool.and_eq_false_iff,decide_eq_false_iff_not,Prod.ext_iff] at h ⊢
  omega
 ·simp only[Bool.not_eq_true',decide_eq_false_iff_not,qP] at h ⊢
  unfold b5 bK at *
  (repeat' split at h)<;>(repeat' split)<;>omega
theorem Dp {a b a' b':aA} (na:a.1≤a.2) (nb:b.1≤b.2) (sa:a'.1≤a.1∧a.2≤a'.2) (sb:b'.1≤b.1∧b.2≤b'.2):bQ (GA a b) (GA a' b'):=
 iV (fun h=>by simp only[qv] at *;omega) (fun h=>by simp only[qv] at *;omega)
theorem Dq {a b a' b':aA} (na:a.1≤a.2) (nb:b.1≤b.2) (sa:a'.1≤a.1∧a.2≤a'.2) (sb:b'.1≤b.1∧b.2≤b'.2):bQ (HX a b) (HX a' b'):=
 iV (fun h=>by simp only[qv] at *;omega) (fun h=>by simp only[qv] at *;omega)
theorem A8 {a a':aA} (na:a.1≤a.2) (sa:a'.1≤a.1∧a.2≤a'.2) (h0:0≤a'.1) (h1:a'.2≤1):bQ (A6 a) (A6 a'):=
 iV (fun h=>by simp only[qv] at *;omega) (fun h=>by simp only[qv] at *;omega)
theorem A9 {a b a' b':aA} (na:a.1≤a.2) (nb:b.1≤b.2) (sa:a'.1≤a.1∧a.2≤a'.2) (sb:b'.1≤b.1∧b.2≤b'.2) (h0:0≤a'.1) (h1:a'.2≤1) (g0:0≤b'.1) (g1:b'.2≤1):bQ (A7 a b) (A7 a' b'):=
 iV (fun h=>by simp only[Bool.or_eq_true,qv] at *;omega) (fun h=>by simp only[qu,qv] at *;omega)
theorem el {a b a' b':aA} (sa:bQ a a') (sb:bQ b b'):bQ (aR a b) (aR a' b'):=by
 unfold bQ at *
 by_cases h:(aR a b).2<(aR a b).1
 ·exact .inl h
 ·right
  rw[qP] at h
  have hn':¬b5 a'.2 b'.2<bK a'.1 b'.1:=by unfold b5 bK at *;(repeat' split at h)<;>(repeat' split)<;>omega
  unfold aR cG
  rw[if_neg h,if_neg hn']
  dsimp only
  unfold b5 bK at *
  constructor<;>(repeat' split)<;>(repeat' split at h)<;>omega
def nJ (num:Int) (a b:aA):aA:=
 if num=0 then (if b.2=dy then bw else aR a (dy,b.2 - 1)) else
 if num=1 then aR a (dy,b.2) else
 if num=2 then aR a b else
 if num=3 then aR a (b.1,dz) else
 if num=4 then (if b.1=dz then bw else aR a (b.1+1,dz)) else a
theorem sD {num:Int} {a b a' b':aA} (hb:bb b) (hb':bb b') (nb:b.1≤b.2) (sa:bQ a a') (sb:b'.1≤b.1∧b.2≤b'.2):bQ (nJ num a b) (nJ num a' b'):=by
 have hb1:=hb.1;have hb2:=hb.2;have hb3:=hb'.1;have hb4:=hb'.2
 unfold aK at hb1 hb2 hb3 hb4
 unfold nJ
 by_cases h0:num=0
 ·rw[if_pos h0,if_pos h0]
  by_cases c:b.2=dy
  ·rw[if_pos c];left;decide
  ·rw[if_neg c,if_neg (by unfold dy at *;omega)]
   exact el sa (.inr ⟨Int.le_refl _,by dsimp only;omega⟩)
 ·rw[if_neg h0,if_neg h0]
  by_cases h1:num=1
  ·rw[if_pos h1,if_pos h1];exact el sa (.inr ⟨Int.le_refl _,by dsimp only;omega⟩)
  ·rw[if_neg h1,if_neg h1]
   by_cases h2:num=2
   ·rw[if_pos h2,if_pos h2];exact el sa (.inr sb)
   ·rw[if_neg h2,if_neg h2]
    by_cases h3:num=3
    ·rw[if_pos h3,if_pos h3];exact el sa (.inr ⟨by dsimp only;omega,Int.le_refl _⟩)
    ·rw[if_neg h3,if_neg h3]
     by_cases h4:num=4
     ·rw[if_pos h4,if_pos h4]
      by_cases c:b.1=dz
      ·rw[if_pos c];left;decide
      ·rw[if_neg c,if_neg (by unfold dz at *;omega)]
       exact el sa (.inr ⟨by dsimp only;omega,Int.le_refl _⟩)
     ·rw[if_neg h4,if_neg h4];exact sa
theorem yF {a b a' b':aA} (sa:bQ a a') (sb:bQ b b'):bQ (aI a b) (aI a' b'):=by
 rw[←sy,←sy]
 unfold bQ AW bw at *
 dsimp only
 by_cases c1:a.2<a.1<;>by_cases c2:b.2<b.1<;>by_cases c3:a'.2<a'.1<;>by_cases c4:b'.2<b'.1<;>simp only[c1,c2,c3,c4,if_true,if_false]<;>(repeat' split)<;>dsimp only<;>omega
end
section
def iW:aA:=(dy,dz)
def lD (k:Nat) (a b:aA) (chk:Bool):aA:=if chk=true∨gC k a b then fR k a b else iW
def ra (rs:List aA) (i:Nat):aA:=(rs[i]?).getD (0,0)
def j9 (op num:Int) (rs:List aA) (chk:Bool):aA:=
 if op=0 then mz num else if op=1∨op=12 then ra rs 0 else
 if op=2 then lD 0 (ra rs 0) (ra rs 1) chk else if op=3 then lD 1 (ra rs 0) (ra rs 1) chk else if op=4 then lD 2 (ra rs 0) (ra rs 1) chk else
 if op=5 then dV (ra rs 0) (ra rs 1) else if op=6 then qO (ra rs 0) (ra rs 1) else
 if op=7 then HW (ra rs 0) (ra rs 1) else if op=8 then GA (ra rs 0) (ra rs 1) else if op=9 then HX (ra rs 0) (ra rs 1) else
 if op=10 then A6 (ra rs 0) else if op=11 then A7 (ra rs 0) (ra rs 1) else
 if op=15 then aR (ra rs 0) (0,64) else if op=16 then mz 0 else
 if op=25 then nJ num (ra rs 0) (ra rs 1) else if op=26 then nJ 0 (aR (ra rs 0) (0,dz)) (ra rs 1) else iW
structure nK (a a':aA):Prop where
 ok:bb a
 ok':bb a'
 ne:a.1≤a.2
 sub:a'.1≤a.1∧a.2≤a'.2
theorem nK.rsub {a a':aA} (h:nK a a'):bQ a a':=.inr h.sub
theorem nK.zero:nK (0,0) (0,0):=⟨⟨by decide,by decide⟩,⟨by decide,by decide⟩,by decide,by decide,by decide⟩
theorem nL {k:Nat} {a b a' b':aA} {chk:Bool} (hk:k≤2) (ha:nK a a') (hb:nK b b'):bQ (lD k a b chk) (lD k a' b' chk):=by
 unfold lD
 by_cases h':chk=true∨gC k a' b'
 ·have h:chk=true∨gC k a b:=h'.imp id fun h=>uJ ha.ne hb.ne ha.sub hb.sub h
  rw[if_pos h',if_pos h]
  exact yD hk ha.ok hb.ok ha.ok' hb.ok' ha.ne hb.ne ha.sub hb.sub
 ·rw[if_neg h']
  right
  by_cases h:chk=true∨gC k a b
  ·rw[if_pos h]
   have g:∀x y,aK (eZ k x y):=fun x y=>vU k x y
   exact gO (g _ _) (g _ _) (g _ _) (g _ _)
  ·rw[if_neg h];exact ⟨Int.le_refl _,Int.le_refl _⟩
theorem yG {op num:Int} {rs rs':List aA} {chk:Bool} (h0:nK (ra rs 0) (ra rs' 0)) (h1:nK (ra rs 1) (ra rs' 1))
  (hb:op=10∨op=11→0≤(ra rs' 0).1∧(ra rs' 0).2≤1) (hb1:op=11→0≤(ra rs' 1).1∧(ra rs' 1).2≤1):bQ (j9 op num rs chk) (j9 op num rs' chk):=by
 unfold j9
 by_cases c0:op=0
 ·rw[if_pos c0,if_pos c0];exact qc _
 rw[if_neg c0,if_neg c0]
 by_cases c1:op=1∨op=12
 ·rw[if_pos c1,if_pos c1];exact h0.rsub
 rw[if_neg c1,if_neg c1]
 by_cases c2:op=2
 ·rw[if_pos c2,if_pos c2];exact nL (by omega) h0 h1
 rw[if_neg c2,if_neg c2]
 by_cases c3:op=3
 ·rw[if_pos c3,if_pos c3];exact nL (by omega) h0 h1
 rw[if_neg c3,if_neg c3]
 by_cases c4:op=4
 ·rw[if_pos c4,if_pos c4];exact nL (by omega) h0 h1
 rw[if_neg c4,if_neg c4]
 by_cases c5:op=5
 ·rw[if_pos c5,if_pos c5];exact A4 h0.ok h1.ok h0.ne h1.ne h0.sub h1.sub h0.ok'.1.1
 rw[if_neg c5,if_neg c5]
 by_cases c6:op=6
 ·rw[if_pos c6,if_pos c6];exact A5 h0.ne h1.ne h0.sub h1.sub
 rw[if_neg c6,if_neg c6]
 by_cases c7:op=7
 ·rw[if_pos c7,if_pos c7];exact Do h0.ne h1.ne h0.sub h1.sub
 rw[if_neg c7,if_neg c7]
 by_cases c8:op=8
 ·rw[if_pos c8,if_pos c8];exact Dp h0.ne h1.ne h0.sub h1.sub
 rw[if_neg c8,if_neg c8]
 by_cases c9:op=9
 ·rw[if_pos c9,if_pos c9];exact Dq h0.ne h1.ne h0.sub h1.sub
 rw[if_neg c9,if_neg c9]
 by_cases c10:op=10
 ·rw[if_pos c10,if_pos c10];exact A8 h0.ne h0.sub (hb (.inl c10)).1 (hb (.inl c10)).2
 rw[if_neg c10,if_neg c10]
 by_cases c11:op=11
 ·rw[if_pos c11,if_pos c11];exact A9 h0.ne h1.ne h0.sub h1.sub (hb (.inr c11)).1 (hb (.inr c11)).2 (hb1 c11).1 (hb1 c11).2
 rw[if_neg c11,if_neg c11]
 by_cases c15:op=15
 ·rw[if_pos c15,if_pos c15];exact el h0.rsub (qc _)
 rw[if_neg c15,if_neg c15]
 by_cases c16:op=16
 ·rw[if_pos c16,if_pos c16];exact qc _
 rw[if_neg c16,if_neg c16]
 by_cases c25:op=25
 ·rw[if_pos c25,if_pos c25];exact sD h1.ok h1.ok' h1.ne h0.rsub h1.sub
 rw[if_neg c25,if_neg c25]
 by_cases c26:op=26
 ·rw[if_pos c26,if_pos c26];exact sD h1.ok h1.ok' h1.ne (el h0.rsub (qc _)) h1.sub
 rw[if_neg c26,if_neg c26]
 exact qc _
end
section
def lv (l:List aA) (v:Int):aA:=(l[v.toNat]?).getD bw
theorem lE {l:List aA} {v:Int} (h0:0≤v) (h:v.toNat<l.length) (r:aA) {u:Int} (hu:0≤u):lv (l.set v.toNat r) u=if u=v then r else lv l u:=by
 unfold lv
 by_cases e:u=v
 ·subst e;rw[if_pos rfl,List.getElem?_set_self h];rfl
 ·rw[if_neg e,List.getElem?_set_ne (by omega)]
def nrm (r:aA):Prop:=r.2<r.1→r=bw
def Da (r:aA):Nat:=if r.2<r.1 then 0 else (r.2 - r.1+1).toNat
theorem Fk {r s:aA} (hr:nrm r) (hs:nrm s) (h:bQ r s) (hne:s≠r):Da r<Da s:=by
 unfold Da
 by_cases c:r.2<r.1
 ·rw[if_pos c]
  by_cases c2:s.2<s.1
  ·exact absurd ((hs c2).trans (hr c).symm) hne
  ·rw[if_neg c2];omega
 ·rw[if_neg c]
  rcases h with h|h
  ·exact absurd h c
  ·have hne2:¬(s.1=r.1∧s.2=r.2):=fun e=>hne (Prod.ext e.1 e.2)
   rw[if_neg (by omega)];omega
theorem pE (lo hi:Int):nrm (cG lo hi):=by
 unfold cG nrm;split
 ·exact fun _=>rfl
 ·rename_i h;exact fun h2=>absurd h2 h
theorem yH (a b:aA):nrm (aR a b):=pE _ _
theorem pF {a b:aA} (ha:nrm a):nrm (aI a b):=by
 unfold aI
 by_cases c:a.2<a.1
 ·rw[if_pos c];exact pE _ _
 ·rw[if_neg c]
  by_cases c2:b.2<b.1
  ·rw[if_pos c2];exact ha
  ·rw[if_neg c2]
   intro h
   exfalso
   dsimp only at h
   unfold b5 bK at h
   (repeat' split at h)<;>omega
theorem qQ {a b:aA}:bQ a (aI a b):=by
 unfold aI bQ
 by_cases c:a.2<a.1
 ·exact .inl c
 ·rw[if_neg c]
  right
  by_cases c2:b.2<b.1
  ·rw[if_pos c2];exact ⟨Int.le_refl _,Int.le_refl _⟩
  ·rw[if_neg c2];dsimp only;unfold b5 bK;constructor<;>split<;>omega
theorem vY {a b:aA}:bQ b (aI a b):=by
 unfold aI bQ
 by_cases c2:b.2<b.1
 ·exact .inl c2
 ·right
  by_cases c:a.2<a.1
  ·rw[if_pos c];unfold cG;rw[if_neg c2];exact ⟨Int.le_refl _,Int.le_refl _⟩
  ·rw[if_neg c,if_neg c2];dsimp only;unfold b5 bK;constructor<;>split<;>omega
def jZ (t:aA) (a b:aA):aA:=
 let j:=aI a b
 if a.2<a.1 then j else (if j.1<a.1∧t.1≤t.2 then b5 j.1 t.1 else j.1,if a.2<j.2∧t.1≤t.2 then bK j.2 t.2 else j.2)
theorem nM {t a b:aA}:bQ (aI a b) (jZ t a b):=by
 unfold jZ
 dsimp only
 split
 ·exact qc _
 ·right
  dsimp only
  unfold b5 bK
  constructor<;>(repeat' split)<;>omega
theorem Ba {t a b:aA} (ha:nrm a):nrm (jZ t a b):=by
 by_cases c:a.2<a.1
 ·unfold jZ;dsimp only;rw[if_pos c];exact pF ha
 ·have h1:=qQ (a:=a) (b:=b)
  have h2:=(h1.trans (nM (t:=t)))
  intro h
  rcases h2 with h2|h2
  ·exact absurd h2 c
  ·omega
theorem vZ {t a b:aA} (ht:bb t) (ha:bb a) (hb:bb b):bb (jZ t a b):=by
 have hj:=kX ha hb
 unfold jZ
 dsimp only
 split
 ·exact hj
 ·constructor
  ·dsimp only;split
   ·exact qK hj.1 ht.1
   ·exact hj.1
  ·dsimp only;split
   ·exact qL hj.2 ht.2
   ·exact hj.2
structure em (n:Nat) (rule:List aA→Int→aA) (vs:List Int):Prop where
 mono:∀l l' v,l.length=n→l'.length=n→(∀u:Int,0≤u→bQ (lv l u) (lv l' u))→(∀u:Int,0≤u→bb (lv l u))→(∀u:Int,0≤u→bb (lv l' u))→v∈vs→bQ (rule l v) (rule l' v)
 ok:∀l v,l.length=n→(∀u:Int,0≤u→bb (lv l u))→v∈vs→bb (rule l v)
 rng:∀v∈vs,0≤v∧v<n
def pG (rule:List aA→Int→aA) (vs:List Int) (l:List aA):Prop:=∀v∈vs,bQ (rule l v) (lv l v)
def dj (n:Nat) (l:List aA):Prop:=l.length=n∧∀u:Int,0≤u→bb (lv l u)
theorem sE {a b:aA}:bQ (aR a b) a∧bQ (aR a b) b:=by
 unfold aR cG bQ
 split
 ·exact ⟨.inl (by decide),.inl (by decide)⟩
 ·constructor<;>right<;>dsimp only<;>unfold b5 bK<;>constructor<;>split<;>omega
theorem Bb {r a b:aA} (h1:bQ r a) (h2:bQ r b):bQ r (aR a b):=by
 by_cases c:r.2<r.1
 ·exact .inl c
 ·right
  rcases h1 with h1|h1
  ·exact absurd h1 c
  ·rcases h2 with h2|h2
   ·exact absurd h2 c
   ·unfold aR cG
    have:¬b5 a.2 b.2<bK a.1 b.1:=by unfold b5 bK;(repeat' split)<;>omega
    rw[if_neg this];dsimp only;unfold b5 bK;constructor<;>split<;>omega
def bj (rule:List aA→Int→aA) (l:List aA) (v:Int):List aA:=l.set v.toNat (aR (lv l v) (rule l v))
theorem lF {n:Nat} {rule:List aA→Int→aA} {vs:List Int} (hR:em n rule vs) {l:List aA} (hl:dj n l) {v:Int} (hv:v∈vs):dj n (bj rule l v):=by
 have hr:=hR.rng v hv
 refine ⟨by unfold bj;rw[List.length_set];exact hl.1,fun u hu=>?_⟩
 unfold bj
 rw[lE hr.1 (by rw[hl.1];omega) _ hu]
 split
 ·exact dF (hl.2 v hr.1) (hR.ok l v hl.1 hl.2 hv)
 ·exact hl.2 u hu
theorem sF {n:Nat} {rule:List aA→Int→aA} {vs:List Int} (hR:em n rule vs) {l:List aA} (hl:dj n l) (hp:pG rule vs l) {v:Int} (hv:v∈vs):pG rule vs (bj rule l v):=by
 have hr:=hR.rng v hv
 have hlen:v.toNat<l.length:=by rw[hl.1];omega
 have hless:∀u:Int,0≤u→bQ (lv (bj rule l v) u) (lv l u):=fun u hu=>by
  unfold bj
  rw[lE hr.1 hlen _ hu]
  split
  ·rename_i e;rw[e];exact sE.1
  ·exact qc _
 have hn:=lF hR hl hv
 intro u hu
 have hur:=hR.rng u hu
 have h1:=hR.mono (bj rule l v) l u hn.1 hl.1 hless hn.2 hl.2 hu
 unfold bj
 rw[lE hr.1 hlen _ hur.1]
 by_cases e:u=v
 ·rw[if_pos e]
  subst e
  exact Bb (h1.trans (hp u hu)) h1
 ·rw[if_neg e]
  exact h1.trans (hp u hu)
theorem ko {n:Nat} {rule:List aA→Int→aA} {vs:List Int} (hR:em n rule vs):∀(us:List Int) (l:List aA),(∀u∈us,u∈vs)→dj n l→pG rule vs l→dj n (us.foldl (bj rule) l)∧pG rule vs (us.foldl (bj rule) l)
 |[],l,_,hl,hp=>⟨hl,hp⟩
 |u::us,l,hs,hl,hp=>ko hR us _ (fun x hx=>hs x (.tail _ hx)) (lF hR hl (hs u (.head _))) (sF hR hl hp (hs u (.head _)))
def cV (rule:List aA→Int→aA) (wid:Int→Option aA) (l:List aA) (v:Int):aA:=
 match wid v with
 |some t=>jZ t (lv l v) (rule l v)
 |none=>aI (lv l v) (rule l v)
def bz (rule:List aA→Int→aA) (wid:Int→Option aA) (l:List aA) (v:Int):List aA:=l.set v.toNat (cV rule wid l v)
def cH (rule:List aA→Int→aA) (wid:Int→Option aA) (vs:List Int) (l:List aA):List aA:=vs.foldl (bz rule wid) l
theorem v7 {rule:List aA→Int→aA} {wid:Int→Option aA} {l:List aA} {v:Int}:bQ (lv l v) (cV rule wid l v)∧bQ (rule l v) (cV rule wid l v):=by
 unfold cV
 cases wid v with
 |none=>exact ⟨qQ,vY⟩
 |some t=>exact ⟨qQ.trans nM,vY.trans nM⟩
structure qR (n:Nat) (l:List aA):Prop where
 ok:dj n l
 nrm:∀u:Int,0≤u→nrm (lv l u)
def k6 (l:List aA):Nat:=(l.map Da).sum
theorem v8:∀(l:List aA) (i:Nat) (r:aA),i<l.length→k6 (l.set i r)+Da ((l[i]?).getD bw)=k6 l+Da r
 |[],i,_,h=>by simp at h
 |x::l,0,r,_=>by simp[k6];omega
 |x::l,i+1,r,h=>by
  have:=v8 l i r (by simpa using h)
  simp only[k6,List.set_cons_succ,List.map_cons,List.sum_cons,List.getElem?_cons_succ] at this ⊢
  omega
theorem nN {n:Nat} {rule:List aA→Int→aA} {wid:Int→Option aA} {vs:List Int} (hR:em n rule vs) (hw:∀v t,wid v=some t→bb t) {l:List aA} (hl:qR n l) {v:Int} (hv:v∈vs) :
  qR n (bz rule wid l v)∧(cV rule wid l v=lv l v∨k6 l<k6 (bz rule wid l v))∧k6 l≤k6 (bz rule wid l v):=by
 have hr:=hR.rng v hv
 have hlen:v.toNat<l.length:=by rw[hl.ok.1];omega
 have h1:=hl.ok.2 v hr.1
 have h2:=hR.ok l v hl.ok.1 hl.ok.2 hv
 have h3:=hl.nrm v hr.1
 have hgo:bb (cV rule wid l v):=by
  unfold cV
  cases hw':wid v with
  |none=>exact kX h1 h2
  |some t=>exact vZ (hw v t hw') h1 h2
 have hgn:nrm (cV rule wid l v):=by
  unfold cV
  cases wid v with
  |none=>exact pF h3
  |some t=>exact Ba h3
 have hsum:=v8 l v.toNat (cV rule wid l v) hlen
 refine ⟨⟨⟨by unfold bz;rw[List.length_set];exact hl.ok.1,fun u hu=>?_⟩,fun u hu=>?_⟩,?_⟩
 ·unfold bz;rw[lE hr.1 hlen _ hu];split
  ·exact hgo
  ·exact hl.ok.2 u hu
 ·unfold bz;rw[lE hr.1 hlen _ hu];split
  ·exact hgn
  ·exact hl.nrm u hu
 ·by_cases e:cV rule wid l v=lv l v
  ·refine ⟨.inl e,?_⟩
   unfold bz
   rw[e] at hsum ⊢
   have:Da (l[v.toNat]?.getD bw)=Da (lv l v):=rfl
   omega
  ·have:=Fk h3 hgn v7.1 e
   have h5:Da (l[v.toNat]?.getD bw)=Da (lv l v):=rfl
   have:k6 l<k6 (bz rule wid l v):=by unfold bz;omega
   exact ⟨.inr this,by omega⟩
theorem kp {rule:List aA→Int→aA} {wid:Int→Option aA} {l:List aA} {v:Int} (h0:0≤v) (h:v.toNat<l.length) (e:cV rule wid l v=lv l v):bz rule wid l v=l:=by
 unfold bz
 rw[e]
 refine List.ext_getElem? fun k=>?_
 by_cases ek:k=v.toNat
 ·subst ek;rw[List.getElem?_set_self h];unfold lv;rw[qj h];rfl
 ·rw[List.getElem?_set_ne (fun e=>ek e.symm)]
theorem yI {rule:List aA→Int→aA} {wid:Int→Option aA} {vs:List Int} {l:List aA} (h:∀v∈vs,cV rule wid l v=lv l v):pG rule vs l:=fun v hv=>by
 have:=(v7 (rule:=rule) (wid:=wid) (l:=l) (v:=v)).2
 rwa [h v hv] at this
end
section
theorem k7 {n:Nat} {rule:List aA→Int→aA} {wid:Int→Option aA} {vs:List Int} (hR:em n rule vs) (hw:∀v t,wid v=some t→bb t):∀(us:List Int) (l:List aA),(∀u∈us,u∈vs)→qR n l →
  qR n (cH rule wid us l)∧k6 l≤k6 (cH rule wid us l)∧(cH rule wid us l=l∨k6 l<k6 (cH rule wid us l))
 |[],l,_,hl=>⟨hl,Nat.le_refl _,.inl rfl⟩
 |u::us,l,hs,hl=>by
  have hu:=hs u (.head _)
  obtain ⟨h1,h2,h3⟩:=nN hR hw hl hu
  obtain ⟨g1,g2,g3⟩:=k7 hR hw us _ (fun x hx=>hs x (.tail _ hx)) h1
  have e:cH rule wid (u::us) l=cH rule wid us (bz rule wid l u):=rfl
  rw[e]
  refine ⟨g1,by omega,?_⟩
  rcases h2 with h2|h2
  ·have hr:=hR.rng u hu
   have e2:=kp (rule:=rule) (wid:=wid) (l:=l) (v:=u) hr.1 (by rw[hl.ok.1];omega) h2
   rw[e2] at g3 ⊢
   exact g3
  ·exact .inr (by omega)
theorem l3 {n:Nat} {rule:List aA→Int→aA} {wid:Int→Option aA} {vs:List Int} (hR:em n rule vs) (hw:∀v t,wid v=some t→bb t):∀(us:List Int) (l:List aA),(∀u∈us,u∈vs)→qR n l→cH rule wid us l=l→∀u∈us,cV rule wid l u=lv l u
 |[],_,_,_,_=>fun _ h=>by cases h
 |u::us,l,hs,hl,he=>by
  have hu:=hs u (.head _)
  obtain ⟨h1,h2,h3⟩:=nN hR hw hl hu
  have g:=k7 hR hw us _ (fun x hx=>hs x (.tail _ hx)) h1
  have e:cH rule wid (u::us) l=cH rule wid us (bz rule wid l u):=rfl
  rw[e] at he
  rw[he] at g
  rcases h2 with h2|h2
  ·have hr:=hR.rng u hu
   have e2:=kp (rule:=rule) (wid:=wid) (l:=l) (v:=u) hr.1 (by rw[hl.ok.1];omega) h2
   rw[e2] at he
   intro x hx
   rcases List.mem_cons.1 hx with rfl|hx
   ·exact h2
   ·exact l3 hR hw us l (fun x hx=>hs x (.tail _ hx)) hl he x hx
  ·exact absurd g.2.1 (by omega)
section
variable {n:Nat} {rule:List aA→Int→aA} {widn:Nat→Int→Option aA} {vs:List Int} (hR:em n rule vs) (hw:∀i v t,widn i v=some t→bb t)
include hR hw
end
end
section
theorem Bc (k:Nat) (a b:aA):bb (fR k a b):=by
 have g:∀x y,aK (eZ k x y):=fun x y=>vU k x y
 have h:=gO (g a.1 b.1) (g a.1 b.2) (g a.2 b.1) (g a.2 b.2)
 have h2:(fR k a b).1≤(fR k a b).2:=by
  unfold fR du de
  by_cases c1:eZ k a.1 b.2<eZ k a.1 b.1<;>by_cases c2:eZ k a.2 b.2<eZ k a.2 b.1<;>simp only[c1,c2,if_true,if_false]<;>(repeat' split)<;>omega
 have h3:fR k a b=du (de (eZ k a.1 b.1) (eZ k a.1 b.2)) (de (eZ k a.2 b.1) (eZ k a.2 b.2)):=rfl
 rw[←h3] at h
 unfold bb aK
 omega
theorem k8 (n y:Bool):bb (kZ n y):=by cases n<;>cases y<;>exact ⟨by decide,by decide⟩
theorem qS:bb iW:=⟨by decide,by decide⟩
theorem gr:bb bw:=⟨by decide,by decide⟩
theorem qT (k:Nat) (a b:aA) (c:Bool):bb (lD k a b c):=by unfold lD;split;exact Bc k a b;exact qS
theorem mT (a b:aA):(iC a b).1≤(iC a b).2:=by
 unfold iC du de
 by_cases c1:a.1.tdiv b.2<a.1.tdiv b.1<;>by_cases c2:a.2.tdiv b.2<a.2.tdiv b.1<;>simp only[c1,c2,if_true,if_false]<;>(repeat' split)<;>omega
theorem Dr {a b:aA} (ha:bb a) (hb:bb b) (na:a.1≤a.2) (nb:b.1≤b.2):bb (dV a b):=by
 by_cases hno:a.1=dy∧b.1≤-1∧-1≤b.2
 ·have e:dV a b=(dy,dz):=by unfold dV;rw[if_pos hno]
  rw[e];exact qS
 ·by_cases hz:b.1=0∧b.2=0
  ·have e:dV a b=bw:=by unfold dV;rw[if_neg hno,if_pos hz]
   rw[e];exact gr
  ·have h:=lB (a:=a) (b:=b) (lo:=-9223372036854775808) (hi:=9223372036854775807) (fun x y hx hy h0=>A3 ha hb hx hy hno h0) na nb hno
   have hne:(dV a b).1≤(dV a b).2:=by
    unfold dV
    rw[if_neg hno,if_neg hz]
    split
    ·exact mT _ _
    ·split
     ·exact mT _ _
     ·have h1:=mT a (b.1,-1)
      have h2:=mT a (1,b.2)
      unfold du
      (repeat' split)<;>omega
   unfold bb aK
   omega
theorem Ds {a b:aA} (ha:bb a) (hb:bb b):bb (qO a b):=by
 have h1:=ha.1;have h2:=ha.2;have h3:=hb.1;have h4:=hb.2
 unfold aK at h1 h2 h3 h4
 unfold qO
 split
 ·exact gr
 ·rename_i hz
  have hk:0≤Ax b∧Ax b≤9223372036854775807:=by unfold Ax bK;(repeat' split)<;>omega
  constructor
  ·unfold aK;dsimp only;unfold bK;(repeat' split)<;>omega
  ·unfold aK;dsimp only;unfold b5;(repeat' split)<;>omega
theorem Bd:aK dy:=by decide
theorem Be:aK dz:=by decide
theorem wa {num:Int} {a b:aA} (ha:bb a) (hb:bb b):bb (nJ num a b):=by
 have h3:=hb.1;have h4:=hb.2
 unfold aK at h3 h4
 unfold nJ
 split
 ·split
  ·exact gr
  ·rename_i h
   exact dF ha ⟨Bd,by unfold dy at h;unfold aK;dsimp only;omega⟩
 ·split
  ·exact dF ha ⟨Bd,hb.2⟩
  ·split
   ·exact dF ha hb
   ·split
    ·exact dF ha ⟨hb.1,Be⟩
    ·split
     ·split
      ·exact gr
      ·rename_i h
       exact dF ha ⟨by unfold dz at h;unfold aK;dsimp only;omega,Be⟩
     ·exact ha
theorem Bf {n:Int} (h:aK n):bb (mz n):=⟨h,h⟩
theorem Bg {op num:Int} {rs:List aA} {chk:Bool} (h0:bb (ra rs 0)) (h1:bb (ra rs 1)) (n0:(ra rs 0).1≤(ra rs 0).2) (n1:(ra rs 1).1≤(ra rs 1).2) (hnum:aK num):bb (j9 op num rs chk):=by
 unfold j9
 by_cases c0:op=0
 ·rw[if_pos c0];exact Bf hnum
 rw[if_neg c0]
 by_cases c1:op=1∨op=12
 ·rw[if_pos c1];exact h0
 rw[if_neg c1]
 by_cases c2:op=2
 ·rw[if_pos c2];exact qT _ _ _ _
 rw[if_neg c2]
 by_cases c3:op=3
 ·rw[if_pos c3];exact qT _ _ _ _
 rw[if_neg c3]
 by_cases c4:op=4
 ·rw[if_pos c4];exact qT _ _ _ _
 rw[if_neg c4]
 by_cases c5:op=5
 ·rw[if_pos c5];exact Dr h0 h1 n0 n1
 rw[if_neg c5]
 by_cases c6:op=6
 ·rw[if_pos c6];exact Ds h0 h1
 rw[if_neg c6]
 by_cases c7:op=7
 ·rw[if_pos c7];exact k8 _ _
 rw[if_neg c7]
 by_cases c8:op=8
 ·rw[if_pos c8];exact k8 _ _
 rw[if_neg c8]
 by_cases c9:op=9
 ·rw[if_pos c9];exact k8 _ _
 rw[if_neg c9]
 by_cases c10:op=10
 ·rw[if_pos c10];exact k8 _ _
 rw[if_neg c10]
 by_cases c11:op=11
 ·rw[if_pos c11];exact k8 _ _
 rw[if_neg c11]
 by_cases c15:op=15
 ·rw[if_pos c15];exact dF h0 ⟨by decide,by decide⟩
 rw[if_neg c15]
 by_cases c16:op=16
 ·rw[if_pos c16];exact Bf (by decide)
 rw[if_neg c16]
 by_cases c25:op=25
 ·rw[if_pos c25];exact wa h0 h1
 rw[if_neg c25]
 by_cases c26:op=26
 ·rw[if_pos c26];exact wa (dF h0 ⟨by decide,by decide⟩) h1
 rw[if_neg c26]
 exact qS
def sG (f:ac) (v:Int):Int:=((f.vars[v.toNat]?).map (·.ty)).getD 0
def j4 (f:ac) (l:List aA) (v:Int):aA:=aR (lv l v) (dE (sG f v))
def H7 (f:ac) (l:List aA) (p:dY):aA:=p.args.foldl (fun acc v=>aI acc (j4 f l v)) bw
def cC (f:ac) (l:List aA) (x:bg):List aA:=x.args.map (j4 f l)
def iD (r:aA):Bool:=decide (r.2<r.1)
def k9 (f:ac) (chk:Int→Bool) (l:List aA) (x:bg):aA:=if (cC f l x).any iD then bw else j9 x.op x.num (cC f l x) (chk x.dst)
def iX (f:ac) (chk:Int→Bool) (l:List aA) (v:Int):aA:=
 let m:=aZ f v
 match f.blocks[m.1.toNat]? with
 |none=>bw
 |some b=>if 0≤m.2 then (match b.insts[m.2.toNat]? with|none=>bw|some x=>k9 f chk l x) else (match b.phis.find? fun p=>decide (p.dst=v) with|none=>bw|some p=>H7 f l p)
theorem nO {f:ac} {l:List aA} (h:∀u:Int,0≤u→bb (lv l u)) {v:Int} (hv:0≤v):bb (j4 f l v):=dF (h v hv) (kY _)
theorem sH {f:ac} {l l':List aA} {v:Int} (h:bQ (lv l v) (lv l' v)):bQ (j4 f l v) (j4 f l' v):=el h (qc _)
theorem Bh {f:ac} {l:List aA} {v:Int} (h:sG f v=1) (hn:(j4 f l v).1≤(j4 f l v).2):0≤(j4 f l v).1∧(j4 f l v).2≤1:=by
 have:=(sE (a:=lv l v) (b:=dE (sG f v))).2
 rw[h] at this
 unfold j4 at hn ⊢
 rw[h] at hn ⊢
 have e:dE 1=(0,1):=rfl
 rw[e] at this hn ⊢
 rcases this with h1|h1
 ·omega
 ·exact h1
theorem ka {f:ac} {l l':List aA} (h:∀u:Int,0≤u→bQ (lv l u) (lv l' u)):∀(az:List Int) (r r':aA),(∀a∈az,0≤a)→bQ r r'→bQ (az.foldl (fun acc v=>aI acc (j4 f l v)) r) (az.foldl (fun acc v=>aI acc (j4 f l' v)) r')
 |[],_,_,_,hr=>hr
 |a::az,r,r',ha,hr=>ka h az _ _ (fun x hx=>ha x (.tail _ hx)) (yF hr (sH (h a (ha a (.head _)))))
theorem l4 {f:ac} {l:List aA} (h:∀u:Int,0≤u→bb (lv l u)):∀(az:List Int) (r:aA),(∀a∈az,0≤a)→bb r→bb (az.foldl (fun acc v=>aI acc (j4 f l v)) r)
 |[],_,_,hr=>hr
 |a::az,r,ha,hr=>l4 h az _ (fun x hx=>ha x (.tail _ hx)) (kX hr (nO h (ha a (.head _))))
theorem qU {f:ac} {l:List aA} {x:bg} (i:Nat):ra (cC f l x) i=match x.args[i]? with|some v=>j4 f l v|none=>(0,0):=by
 unfold ra cC
 rw[qr]
 cases x.args[i]?<;>rfl
structure nP (f:ac):Prop where
 args:∀b∈f.blocks,∀x∈b.insts,∀v∈x.args,0≤v
 pargs:∀b∈f.blocks,∀p∈b.phis,∀v∈p.args,0≤v
 bool:∀b∈f.blocks,∀x∈b.insts,x.op=10∨x.op=11→∀v∈x.args,sG f v=1
 two:∀b∈f.blocks,∀x∈b.insts,(x.op=10→1≤x.args.length)∧(x.op=11→2≤x.args.length)
 num:∀b∈f.blocks,∀x∈b.insts,aK x.num
theorem uK {f:ac} (hf:nP f) {chk:Int→Bool} {l l':List aA} (h:∀u:Int,0≤u→bQ (lv l u) (lv l' u)) (ho:∀u:Int,0≤u→bb (lv l u)) (ho':∀u:Int,0≤u→bb (lv l' u)) {b:aW} (hb:b∈f.blocks) {x:bg} (hx:x∈b.insts):bQ (k9 f chk l x) (k9 f chk l' x):=by
 unfold k9
 by_cases he:(cC f l x).any iD=true
 ·rw[if_pos he];left;decide
 ·rw[if_neg he]
  have hne:∀v∈x.args,(j4 f l v).1≤(j4 f l v).2:=fun v hv=>by
   refine Classical.byContradiction fun hn=>he (List.any_eq_true.2 ⟨j4 f l v,List.mem_map.2 ⟨v,hv,Z⟩,?_⟩)
   unfold iD;simp;omega
  have hless:∀v∈x.args,nK (j4 f l v) (j4 f l' v):=fun v hv=>by
   have h0:=hf.args b hb x hx v hv
   have h1:=sH (f:=f) (h v h0)
   have h2:=hne v hv
   refine ⟨nO ho h0,nO ho' h0,h2,?_⟩
   rcases h1 with h1|h1
   ·omega
   ·exact h1
  have he':¬(cC f l' x).any iD=true:=fun h'=>by
   obtain ⟨r,hr,h2⟩:=List.any_eq_true.1 h'
   obtain ⟨v,hv,rfl⟩:=List.mem_map.1 hr
   have h3:=hless v hv
   have h4:=h3.ne;have h5:=h3.sub
   unfold iD at h2
   simp at h2
   omega
  rw[if_neg he']
  have hra:∀i,nK (ra (cC f l x) i) (ra (cC f l' x) i):=fun i=>by
   rw[qU,qU]
   cases hi:x.args[i]? with
   |none=>exact nK.zero
   |some v=>exact hless v (qt hi)
  have hbool:x.op=10∨x.op=11→∀i v,x.args[i]?=some v→0≤(ra (cC f l' x) i).1∧(ra (cC f l' x) i).2≤1:=fun ho2 i v hi=>by
   rw[qU,hi]
   have hv:=qt hi
   have h3:=hless v hv
   have h4:=h3.ne;have h5:=h3.sub
   exact Bh (hf.bool b hb x hx ho2 v hv) (by omega)
  have htwo:=hf.two b hb x hx
  refine yG (hra 0) (hra 1) (fun ho2=>?_) (fun ho2=>?_)
  ·have hl:0<x.args.length:=by
    rcases ho2 with h|h
    ·have:=htwo.1 h;omega
    ·have:=htwo.2 h;omega
   exact hbool ho2 0 _ (qj hl)
  ·exact hbool (.inr ho2) 1 _ (qj (by have:=htwo.2 ho2;omega))
theorem Bi {f:ac} (hf:nP f) {chk:Int→Bool} {l:List aA} (ho:∀u:Int,0≤u→bb (lv l u)) {b:aW} (hb:b∈f.blocks) {x:bg} (hx:x∈b.insts):bb (k9 f chk l x):=by
 unfold k9
 by_cases he:(cC f l x).any iD=true
 ·rw[if_pos he];exact gr
 ·rw[if_neg he]
  have hra:∀i,bb (ra (cC f l x) i)∧(ra (cC f l x) i).1≤(ra (cC f l x) i).2:=fun i=>by
   rw[qU]
   cases hi:x.args[i]? with
   |none=>exact (show bb (0,0)∧(0:Int)≤0 from ⟨⟨by decide,by decide⟩,by decide⟩)
   |some v=>
    have hv:=qt hi
    refine ⟨nO ho (hf.args b hb x hx v hv),Classical.byContradiction fun hn=>he (List.any_eq_true.2 ⟨j4 f l v,List.mem_map.2 ⟨v,hv,Z⟩,?_⟩)⟩
    dsimp only at hn
    unfold iD;simp;omega
  exact Bg (hra 0).1 (hra 1).1 (hra 0).2 (hra 1).2 (hf.num b hb x hx)
theorem sI {f:ac} (hf:nP f) (chk:Int→Bool) {vs:List Int} (hv:∀v∈vs,0≤v∧v<f.vars.length):em f.vars.length (iX f chk) vs:=by
 refine ⟨fun l l' v _ _ h ho ho' _=>?_,fun l v _ ho _=>?_,hv⟩
 ·unfold iX
  dsimp only
  cases hb:f.blocks[(aZ f v).1.toNat]? with
  |none=>exact qc _
  |some b=>
   have hbm:=qt hb
   dsimp only
   split
   ·cases hx:b.insts[(aZ f v).2.toNat]? with
    |none=>exact qc _
    |some x=>exact uK hf h ho ho' hbm (qt hx)
   ·cases hp:b.phis.find? fun p=>decide (p.dst=v) with
    |none=>exact qc _
    |some p=>
     have hpm:=List.mem_of_find?_eq_some hp
     exact ka h p.args bw bw (hf.pargs b hbm p hpm) (qc _)
 ·unfold iX
  dsimp only
  cases hb:f.blocks[(aZ f v).1.toNat]? with
  |none=>exact gr
  |some b=>
   have hbm:=qt hb
   dsimp only
   split
   ·cases hx:b.insts[(aZ f v).2.toNat]? with
    |none=>exact gr
    |some x=>exact Bi hf ho hbm (qt hx)
   ·cases hp:b.phis.find? fun p=>decide (p.dst=v) with
    |none=>exact gr
    |some p=>
     have hpm:=List.mem_of_find?_eq_some hp
     exact l4 ho p.args bw (hf.pargs b hbm p hpm) gr
end
section
def Dt (f:ac) (op:Int) (args:List Int) (i:Nat) (block at_:Int) (q:bg × Nat):Bool:=decide (q.1.op=op)&&decide (q.1.args=args)&&dD f ((i:Int),(q.2:Int)) block at_
def Fl (f:ac) (op:Int) (args:List Int) (block at_:Int) (i:Nat):Bool:=((f.blocks[i]?).map fun b=>b.insts.zipIdx.any (Dt f op args i block at_)).getD false
def Fm (f:ac) (op:Int) (args:List Int) (block at_:Int):Bool:=(List.range f.blocks.length).any (Fl f op args block at_)
def EL (op:Int):Bool:=decide (op=2∨op=3∨op=4)
def sJ (f:ac) (x:bg) (block at_:Int):Bool:=EL x.op&&Fm f (x.op+19) x.args block at_
def kq (f:ac) (m:lX):Option bg:=if 0≤m.1∧0≤m.2 then (f.blocks[m.1.toNat]?).bind fun b=>b.insts[m.2.toNat]? else none
def qV (f:ac) (v:Int):Bool:=((kq f (aZ f v)).map fun x=>sJ f x (aZ f v).1 (aZ f v).2).getD false
theorem wb {f:ac} {op:Int} {args:List Int} {block at_:Int} {i:Nat} {b:aW} (h:f.blocks[i]?=some b):Fl f op args block at_ i=b.insts.zipIdx.any (Dt f op args i block at_):=by unfold Fl;rw[h];rfl
theorem jR {v i:Int} {b:aW} {m:lX}:m∈kU v i b↔(∃p∈b.phis,p.dst=v∧m=(i,-1))∨∃(k:Nat) (x:bg),b.insts[k]?=some x∧x.dst=v∧m=(i,(k:Int)):=by
 unfold kU
 rw[List.mem_append]
 constructor
 ·rintro (h|h)
  ·obtain ⟨p,hp,e⟩:=List.mem_map.1 h
   obtain ⟨h1,h2⟩:=List.mem_filter.1 hp
   exact .inl ⟨p,h1,by simpa using h2,e.symm⟩
  ·obtain ⟨q,hq,e⟩:=List.mem_map.1 h
   obtain ⟨h1,h2⟩:=List.mem_filter.1 hq
   obtain ⟨x,k⟩:=q
   have:=List.mem_zipIdx_iff_getElem?.1 h1
   exact .inr ⟨k,x,this,by simpa using h2,e.symm⟩
 ·rintro (⟨p,h1,h2,rfl⟩|⟨k,x,h1,h2,rfl⟩)
  ·exact .inl (List.mem_map.2 ⟨p,List.mem_filter.2 ⟨h1,by simpa using h2⟩,rfl⟩)
  ·exact .inr (List.mem_map.2 ⟨(x,k),List.mem_filter.2 ⟨List.mem_zipIdx_iff_getElem?.2 h1,by simpa using h2⟩,rfl⟩)
theorem gh {f:ac} {v:Int} {m:lX}:m∈bn f v↔∃(i:Nat) (b:aW),f.blocks[i]?=some b∧m∈kU v i b:=by
 unfold bn
 rw[List.mem_flatMap]
 constructor
 ·rintro ⟨⟨b,i⟩,h1,h2⟩;exact ⟨i,b,List.mem_zipIdx_iff_getElem?.1 h1,h2⟩
 ·rintro ⟨i,b,h1,h2⟩;exact ⟨(b,i),List.mem_zipIdx_iff_getElem?.2 h1,h2⟩
theorem yJ {f:ac} {v:Int} (h:0≤(aZ f v).1):aZ f v∈bn f v:=by
 unfold aZ at h ⊢
 cases hm:bn f v with
 |nil=>rw[hm] at h;simp at h
 |cons x l=>simp
theorem nQ {f:ac} {v:Int} {m:lX} (hl:(bn f v).length≤1) (h:m∈bn f v):aZ f v=m:=by
 unfold aZ
 cases hm:bn f v with
 |nil=>rw[hm] at h;cases h
 |cons x l=>
  rw[hm] at h hl
  cases l with
  |nil=>simp at h;simp[h]
  |cons y l=>simp at hl
theorem iY {f:ac} {v:Int} (h:0≤(aZ f v).1):∃(i:Nat) (b:aW),f.blocks[i]?=some b∧((∃p∈b.phis,p.dst=v∧aZ f v=((i:Int),-1))∨∃(k:Nat) (x:bg),b.insts[k]?=some x∧x.dst=v∧aZ f v=((i:Int),(k:Int))):=by
 obtain ⟨i,b,h1,h2⟩:=gh.1 (yJ h)
 exact ⟨i,b,h1,jR.1 h2⟩
theorem wc {f:ac} {v:Int} {i k:Nat} {b:aW} {x:bg} (hb:f.blocks[i]?=some b) (hx:b.insts[k]?=some x) (hm:aZ f v=((i:Int),(k:Int))):qV f v=sJ f x i k:=by
 unfold qV kq
 rw[hm,if_pos ⟨by dsimp only;omega,by dsimp only;omega⟩]
 show (((f.blocks[i]?).bind fun b=>b.insts[k]?).map fun x=>sJ f x i k).getD false=_
 rw[hb];show ((b.insts[k]?).map _).getD false=_
 rw[hx];rfl
end
section
theorem pH {α β:Type} {g:α→List β}:∀{l:List α} {i:Nat} {x:α},l[i]?=some x→(g x).length≤(l.flatMap g).length
 |y::l,0,x,h=>by simp at h;subst h;rw[List.flatMap_cons,qp];omega
 |y::l,i+1,x,h=>by
  have:=pH (g:=g) (l:=l) (i:=i) (x:=x) (by simpa using h)
  rw[List.flatMap_cons,qp];omega
theorem yK {f:ac} {v:Int} (hl:(bn f v).length≤1) {i:Nat} {b:aW} (h:f.blocks[i]?=some b):(kU v i b).length≤1:=by
 have h2:f.blocks.zipIdx[i]?=some (b,i):=by rw[List.getElem?_zipIdx,h];simp
 exact Nat.le_trans (pH (g:=fun b:aW × Nat=>kU v (b.2:Int) b.1) h2) hl
theorem Du {f:ac} {v:Int} (hl:(bn f v).length≤1) {i:Nat} {b:aW} (h:f.blocks[i]?=some b) {p:dY} (hp:p∈b.phis) (hd:p.dst=v):b.phis.filter (fun q=>decide (q.dst=v))=[p]:=by
 have h1:=yK hl h
 unfold kU at h1
 rw[qp,qq] at h1
 have h2:p∈b.phis.filter (fun q=>decide (q.dst=v)):=List.mem_filter.2 ⟨hp,by simpa using hd⟩
 cases hf:b.phis.filter (fun q=>decide (q.dst=v)) with
 |nil=>rw[hf] at h2;cases h2
 |cons x l=>
  rw[hf] at h1 h2
  have:l=[]:=List.eq_nil_of_length_eq_zero (by simp only[List.length_cons] at h1;omega)
  subst this
  simp at h2;rw[h2]
theorem sK {f:ac} {v:Int} (hl:(bn f v).length≤1) {i:Nat} {b:aW} (h:f.blocks[i]?=some b) {p:dY} (hp:p∈b.phis) (hd:p.dst=v):(b.phis.find? fun q=>decide (q.dst=v))=some p:=by
 rw[←List.head?_filter,Du hl h hp hd];rfl
def lG (f:ac) (l:List aA) (acc:aA) (xs:List Int):aA:=xs.foldl (fun acc v=>aI acc (j4 f l v)) acc
theorem sL (f:ac) (l:List aA) (acc:aA) (xs:List Int) (v:Int):lG f l acc (xs++[v])=aI (lG f l acc xs) (j4 f l v):=by unfold lG;rw[List.foldl_append];rfl
theorem nR {f:ac} {chk:Int→Bool} {l:List aA} {v:Int} (hl:(bn f v).length≤1) {i:Nat} {b:aW} (h:f.blocks[i]?=some b) {p:dY} (hp:p∈b.phis) (hd:p.dst=v) (hm:aZ f v=((i:Int),-1)):iX f chk l v=lG f l bw p.args:=by
 unfold iX
 rw[hm]
 dsimp only
 rw[show (i:Int).toNat=i from rfl,h]
 dsimp only
 rw[if_neg (by decide),sK hl h hp hd]
 rfl
theorem lH {f:ac} {chk:Int→Bool} {l:List aA} {v:Int} {i k:Nat} {b:aW} (h:f.blocks[i]?=some b) {x:bg} (hx:b.insts[k]?=some x) (hm:aZ f v=((i:Int),(k:Int))):iX f chk l v=k9 f chk l x:=by
 unfold iX
 rw[hm]
 dsimp only
 rw[show (i:Int).toNat=i from rfl,h]
 dsimp only
 rw[if_pos (by omega),show (k:Int).toNat=k from rfl,hx]
def gP (f:ac) (v:Int):aA:=if v<f.params.length then dE (sG f v) else (0,0)
def gj (f:ac) (v:Int):aA:=if (aZ f v).1<0 then gP f v else bw
def dp (f:ac):List aA:=(List.range f.vars.length).map fun (v:Nat)=>gj f v
theorem gQ (f:ac):(dp f).length=f.vars.length:=by simp[dp]
theorem sM {f:ac} {k:Nat} (h:k<f.vars.length):(dp f).take (k+1)=(dp f).take k++[gj f k]:=by
 rw[qk (by rw[gQ];exact h)]
 congr 1
 unfold dp;simp
def nS (b:aW):List (Int × Bool):=b.phis.map fun p=>(p.dst,true)
def iZ (xs:List bg):List (Int × Bool):=(xs.filter fun x=>decide (0≤x.dst)).map fun x=>(x.dst,false)
def jc (f:ac) (k:Nat):List (Int × Bool):=(f.blocks.take k).flatMap fun b=>nS b++iZ b.insts
def dS (f:ac):List (Int × Bool):=f.blocks.flatMap fun b=>nS b++iZ b.insts
theorem uL (f:ac):jc f f.blocks.length=dS f:=by unfold jc dS;rw[qo]
theorem sN {f:ac} {k:Nat} (h:k<f.blocks.length):jc f (k+1)=jc f k++(nS f.blocks[k]++iZ f.blocks[k].insts):=by
 unfold jc;rw[qk h,List.flatMap_append];simp
theorem sO {b:aW} {j:Nat} (h:j<b.phis.length):(b.phis.take (j+1)).map (fun p=>((p.dst,true):Int × Bool))=(b.phis.take j).map (fun p=>((p.dst,true):Int × Bool))++[(b.phis[j].dst,true)]:=by
 rw[qk h,List.map_append];rfl
theorem sP {xs:List bg} {j:Nat} (h:j<xs.length):iZ (xs.take (j+1))=iZ (xs.take j)++if 0≤xs[j].dst then[(xs[j].dst,false)] else[]:=by
 unfold iZ
 rw[qk h,List.filter_append,List.map_append]
 congr 1
 by_cases c:0≤xs[j].dst
 ·rw[if_pos c];simp[c]
 ·rw[if_neg c];simp[c]
theorem lI {f:ac} {v:Int} {p:Bool}:(v,p)∈dS f↔∃b∈f.blocks,(p=true∧∃q∈b.phis,q.dst=v)∨(p=false∧0≤v∧∃x∈b.insts,x.dst=v):=by
 unfold dS
 rw[List.mem_flatMap]
 constructor
 ·rintro ⟨b,hb,h⟩
  refine ⟨b,hb,?_⟩
  rcases List.mem_append.1 h with h|h
  ·obtain ⟨q,hq,e⟩:=List.mem_map.1 h
   simp only[Prod.mk.injEq] at e
   exact .inl ⟨e.2.symm,q,hq,e.1⟩
  ·obtain ⟨x,hx,e⟩:=List.mem_map.1 h
   obtain ⟨h1,h2⟩:=List.mem_filter.1 hx
   simp only[Prod.mk.injEq] at e
   exact .inr ⟨e.2.symm,by rw[←e.1];simpa using h2,x,h1,e.1⟩
 ·rintro ⟨b,hb,h⟩
  refine ⟨b,hb,?_⟩
  rcases h with ⟨rfl,q,hq,rfl⟩|⟨rfl,h0,x,hx,rfl⟩
  ·exact List.mem_append_left _ (List.mem_map.2 ⟨q,hq,rfl⟩)
  ·exact List.mem_append_right _ (List.mem_map.2 ⟨x,List.mem_filter.2 ⟨hx,by simpa using h0⟩,rfl⟩)
end
section
def fT (q:Int):Prop:=21≤q∧q≤23
instance (q:Int):Decidable (fT q):=by unfold fT;infer_instance
def nT (q:Int) (i:Nat) (xs:List bg):List lX:=if fT q then (xs.zipIdx.filter fun x=>decide (x.1.op=q)).map fun x=>((i:Int),(x.2:Int)) else[]
def lJ (f:ac) (k:Nat) (q:Int):List lX:=(f.blocks.take k).zipIdx.flatMap fun b=>nT q b.2 b.1.insts
theorem yL (q:Int) (i:Nat) {xs:List bg} {j:Nat} (h:j<xs.length):nT q i (xs.take (j+1))=nT q i (xs.take j)++if fT q∧xs[j].op=q then[((i:Int),(j:Int))] else[]:=by
 unfold nT
 by_cases hq:fT q
 ·rw[if_pos hq,if_pos hq,kW h,List.filter_append,List.map_append]
  congr 1
  by_cases c:xs[j].op=q
  ·rw[if_pos ⟨hq,c⟩];simp[c]
  ·rw[if_neg (fun h=>c h.2)];simp[c]
 ·rw[if_neg hq,if_neg hq,if_neg (fun h=>hq h.1)];rfl
theorem pI {f:ac} {k:Nat} (q:Int) (h:k<f.blocks.length):lJ f (k+1) q=lJ f k q++nT q k f.blocks[k].insts:=by
 unfold lJ;rw[kW h,List.flatMap_append];simp
theorem sQ (q:Int) (i:Nat) (xs:List bg):(nT q i xs).length≤xs.length:=by
 unfold nT
 split
 ·rw[qq]
  have:=List.length_filter_le (fun x:bg × Nat=>decide (x.1.op=q)) xs.zipIdx
  simpa using this
 ·simp
theorem nU {f:ac} {q:Int} {m:Nat} (h:∀b∈f.blocks,b.insts.length≤m):∀k,k≤f.blocks.length→(lJ f k q).length≤k*m
 |0,_=>by simp[lJ]
 |k+1,hk=>by
  have h1:=nU (q:=q) h k (by omega)
  have h2:=sQ q k (f.blocks[k]'(by omega)).insts
  have h3:=h _ (qn (show k<f.blocks.length by omega))
  rw[pI q (by omega),qp,Nat.add_mul];omega
theorem la {f:ac} {q:Int} {m:lX}:m∈lJ f f.blocks.length q↔fT q∧∃(i k:Nat) (b:aW) (z:bg),f.blocks[i]?=some b∧b.insts[k]?=some z∧z.op=q∧m=((i:Int),(k:Int)):=by
 unfold lJ nT
 rw[qo,List.mem_flatMap]
 constructor
 ·rintro ⟨⟨b,i⟩,h1,h2⟩
  have hb:=List.mem_zipIdx_iff_getElem?.1 h1
  dsimp only at h2 hb
  split at h2
  ·rename_i hq
   obtain ⟨⟨z,k⟩,h3,h4⟩:=List.mem_map.1 h2
   obtain ⟨h5,h6⟩:=List.mem_filter.1 h3
   exact ⟨hq,i,k,b,z,hb,List.mem_zipIdx_iff_getElem?.1 h5,by simpa using h6,h4.symm⟩
  ·cases h2
 ·rintro ⟨hq,i,k,b,z,h1,h2,h3,rfl⟩
  refine ⟨(b,i),List.mem_zipIdx_iff_getElem?.2 h1,?_⟩
  dsimp only
  rw[if_pos hq]
  exact List.mem_map.2 ⟨(z,k),List.mem_filter.2 ⟨List.mem_zipIdx_iff_getElem?.2 h2,by simpa using h3⟩,rfl⟩
def qW (f:ac) (x:bg) (i k:Nat) (m:lX):Bool:=((kq f m).map fun c=>decide (c.args=x.args)).getD false&&dD f m i k
theorem Bj {f:ac} {x:bg} {i k:Nat} {q:Int}:Fm f q x.args i k=true↔∃(i' k':Nat) (b:aW) (z:bg),f.blocks[i']?=some b∧b.insts[k']?=some z∧z.op=q∧z.args=x.args∧dD f ((i':Int),(k':Int)) i k=true:=by
 unfold Fm
 rw[List.any_eq_true]
 constructor
 ·rintro ⟨i',hi,h⟩
  rw[List.mem_range] at hi
  rw[wb (qj hi)] at h
  obtain ⟨⟨z,k'⟩,h1,h2⟩:=List.any_eq_true.1 h
  unfold Dt at h2
  simp only[qu,qv] at h2
  exact ⟨i',k',_,z,qj hi,List.mem_zipIdx_iff_getElem?.1 h1,h2.1.1,h2.1.2,h2.2⟩
 ·rintro ⟨i',k',b,z,h1,h2,h3,h4,h5⟩
  have hi:=(List.getElem?_eq_some_iff.1 h1).1
  refine ⟨i',List.mem_range.2 hi,?_⟩
  rw[wb h1]
  refine List.any_eq_true.2 ⟨(z,k'),List.mem_zipIdx_iff_getElem?.2 h2,?_⟩
  unfold Dt
  simp only[qu,qv]
  exact ⟨⟨h3,h4⟩,h5⟩
theorem kw {f:ac} {i k:Nat} {b:aW} {z:bg} (h1:f.blocks[i]?=some b) (h2:b.insts[k]?=some z):kq f ((i:Int),(k:Int))=some z:=by
 unfold kq
 rw[if_pos ⟨by dsimp only;omega,by dsimp only;omega⟩]
 show ((f.blocks[i]?).bind fun b=>b.insts[k]?)=_
 rw[h1];exact h2
def gR (op:Int):Int:=if op=2∨op=3∨op=4 then op+19 else 0
theorem Bk {f:ac} {x:bg} {i k:Nat}:sJ f x i k=true↔∃m∈lJ f f.blocks.length (gR x.op),qW f x i k m=true:=by
 unfold sJ EL gR
 by_cases hs:x.op=2∨x.op=3∨x.op=4
 ·rw[decide_eq_true hs,Bool.true_and,if_pos hs,Bj]
  constructor
  ·rintro ⟨i',k',b,z,h1,h2,h3,h4,h5⟩
   refine ⟨((i':Int),(k':Int)),la.2 ⟨by unfold fT;omega,i',k',b,z,h1,h2,h3,rfl⟩,?_⟩
   unfold qW
   rw[kw h1 h2,h5];simp[h4]
  ·rintro ⟨m,hm,hh⟩
   obtain ⟨hq,i',k',b,z,h1,h2,h3,rfl⟩:=la.1 hm
   unfold qW at hh
   rw[kw h1 h2] at hh
   simp at hh
   exact ⟨i',k',b,z,h1,h2,h3,hh.1,hh.2⟩
 ·rw[decide_eq_false hs,Bool.false_and,if_neg hs]
  constructor
  ·intro h;cases h
  ·rintro ⟨m,hm,_⟩
   obtain ⟨hq,_⟩:=la.1 hm
   unfold fT at hq;omega
def iE (f:ac) (i k:Nat) (v:Int):Prop:=∃(i' k':Nat) (b:aW) (z:bg),f.blocks[i']?=some b∧b.insts[k']?=some z∧z.dst=v∧sJ f z i' k'=true∧(i'<i∨i'=i∧k'<k)
theorem iE.step {f:ac} {i k:Nat} {b:aW} {z:bg} (h1:f.blocks[i]?=some b) (h2:b.insts[k]?=some z) (v:Int):iE f i (k+1) v↔iE f i k v∨(v=z.dst∧sJ f z i k=true):=by
 constructor
 ·rintro ⟨i',k',b',z',g1,g2,g3,g4,g5⟩
  by_cases e:i'=i∧k'=k
  ·obtain ⟨rfl,rfl⟩:=e
   rw[h1] at g1;cases g1
   rw[h2] at g2;cases g2
   exact .inr ⟨g3.symm,g4⟩
  ·exact .inl ⟨i',k',b',z',g1,g2,g3,g4,by omega⟩
 ·rintro (⟨i',k',b',z',g1,g2,g3,g4,g5⟩|⟨rfl,h⟩)
  ·exact ⟨i',k',b',z',g1,g2,g3,g4,by omega⟩
  ·exact ⟨i,k,b,z,h1,h2,rfl,h,.inr ⟨rfl,by omega⟩⟩
theorem iE.next {f:ac} {i:Nat} {b:aW} (h1:f.blocks[i]?=some b) (v:Int):iE f (i+1) 0 v↔iE f i b.insts.length v:=by
 constructor
 ·rintro ⟨i',k',b',z',g1,g2,g3,g4,g5⟩
  refine ⟨i',k',b',z',g1,g2,g3,g4,?_⟩
  by_cases e:i'=i
  ·subst e
   rw[h1] at g1;cases g1
   exact .inr ⟨rfl,(List.getElem?_eq_some_iff.1 g2).1⟩
  ·exact .inl (by omega)
 ·rintro ⟨i',k',b',z',g1,g2,g3,g4,g5⟩
  exact ⟨i',k',b',z',g1,g2,g3,g4,.inl (by omega)⟩
theorem iE.zero (f:ac) (v:Int):¬iE f 0 0 v:=by
 rintro ⟨i',k',b',z',g1,g2,g3,g4,g5⟩;omega
theorem iE.all {f:ac} (ho:lY f) {v:Nat} (hv:v<f.vars.length):iE f f.blocks.length 0 v↔qV f v=true:=by
 constructor
 ·rintro ⟨i',k',b',z',g1,g2,g3,g4,g5⟩
  have hm:((i':Int),(k':Int))∈bn f v:=gh.2 ⟨i',b',g1,jR.2 (.inr ⟨k',z',g2,g3,rfl⟩)⟩
  have:=nQ (ho v hv).1 hm
  rw[wc g1 g2 this];exact g4
 ·intro h
  by_cases h0:0≤(aZ f v).1
  ·obtain ⟨i,b,h1,⟨p,h2,h3,h4⟩|⟨k,x,h2,h3,h4⟩⟩:=iY h0
   ·unfold qV kq at h
    rw[h4,if_neg (by dsimp only;omega)] at h
    cases h
   ·rw[wc h1 h2 h4] at h
    exact ⟨i,k,b,x,h1,h2,h3,h,.inl (List.getElem?_eq_some_iff.1 h1).1⟩
  ·unfold qV kq at h
   rw[if_neg (fun hh=>h0 hh.1)] at h
   cases h
def gv (f:ac):List Bool:=(List.range f.vars.length).map fun (v:Nat)=>qV f v
theorem nV (f:ac):(gv f).length=f.vars.length:=by simp[gv]
theorem Dv {f:ac} {v:Int} (h0:0≤v) (h:v<f.vars.length):gb (gv f) v=qV f v:=by
 obtain ⟨k,rfl⟩:∃k:Nat,v=(k:Int):=⟨v.toNat,by omega⟩
 rw[nH]
 unfold gv
 rw[qr,List.getElem?_range (by omega)];rfl
theorem Dw {f:ac} (ho:lY f) {L:List Bool} (hl:L.length=f.vars.length) (h:∀v:Nat,v<f.vars.length→(gb L v=true↔iE f f.blocks.length 0 v)):L=gv f:=by
 apply List.ext_getElem?
 intro v
 by_cases hv:v<f.vars.length
 ·have h1:=h v hv
  rw[iE.all ho hv] at h1
  unfold gv
  rw[qr,List.getElem?_range hv,Dl (out:=L) (by omega)]
  simp only[Option.map_some]
  rw[Bool.eq_iff_iff.2 h1]
 ·rw[List.getElem?_eq_none (by omega),List.getElem?_eq_none (by rw[nV];omega)]
theorem Dx {L:List Bool} {d v:Nat} (hd:d<L.length):gb (L.set d true) v=true↔v=d∨gb L v=true:=by
 rw[nH,nH,List.getElem?_set]
 by_cases e:d=v
 ·subst e;rw[if_pos rfl,if_pos hd];simp
 ·rw[if_neg e]
  constructor
  ·exact .inr
  ·rintro (h|h)
   ·exact absurd h.symm e
   ·exact h
end
section
def rF (f:ac):List aA→Int→aA:=iX f (qV f)
def cD (f:ac):List Int:=(dS f).map (·.1)
def fp (f:ac) (n:Nat) (v:Int):Option aA:=if 4≤n∧(aZ f v).2=-1 then some (dE (sG f v)) else none
def fU (f:ac) (l:List aA) (v:Int) (phi:Bool) (how:Int):aA:=
 if how=2 then aR (lv l v) (rF f l v) else if how=1∧phi=true then jZ (dE (sG f v)) (lv l v) (rF f l v) else aI (lv l v) (rF f l v)
def iF (f:ac) (how:Int) (s:List aA × Bool) (q:Int × Bool):List aA × Bool:=(s.1.set q.1.toNat (fU f s.1 q.1 q.2 how),!decide (fU f s.1 q.1 q.2 how=lv s.1 q.1)||s.2)
def gD (f:ac) (how:Int) (qs:List (Int × Bool)) (s:List aA × Bool):List aA × Bool:=qs.foldl (iF f how) s
theorem pJ (f:ac) (how:Int) (qs:List (Int × Bool)) (q:Int × Bool) (s:List aA × Bool):gD f how (qs++[q]) s=iF f how (gD f how qs s) q:=by unfold gD;rw[List.foldl_append];rfl
def wd (f:ac):Prop:=∀q∈dS f,0≤q.1∧q.1<f.vars.length∧0≤(aZ f q.1).1∧(q.2=true↔(aZ f q.1).2=-1)
theorem nW {f:ac} (hf:nP f) (hm:wd f):em f.vars.length (rF f) (cD f):=sI hf _ fun v hv=>by
 obtain ⟨q,hq,rfl⟩:=List.mem_map.1 hv
 have:=hm q hq
 exact ⟨this.1,this.2.1⟩
theorem qX (f:ac) (i:Nat) (v:Int) (t:aA) (h:fp f i v=some t):bb t:=by
 unfold fp at h
 split at h
 ·cases h;exact kY _
 ·cases h
def Dy (how:Int) (n:Nat):Prop:=how=if 4≤n then 1 else 0
theorem yM {f:ac} (hm:wd f) {how:Int} {n:Nat} (hh:Dy how n) (l:List aA) {q:Int × Bool} (hq:q∈dS f):fU f l q.1 q.2 how=cV (rF f) (fp f n) l q.1:=by
 obtain ⟨_,_,_,h⟩:=hm q hq
 unfold fU cV fp
 unfold Dy at hh
 subst hh
 by_cases h4:4≤n
 ·rw[if_pos h4,if_neg (by decide)]
  by_cases c:(aZ f q.1).2=-1
  ·rw[if_pos ⟨rfl,h.2 c⟩,if_pos ⟨h4,c⟩]
  ·rw[if_neg (fun e=>c (h.1 e.2)),if_neg (fun e=>c e.2)]
 ·rw[if_neg h4,if_neg (by decide),if_neg (fun e=>by simp at e),if_neg (fun e=>h4 e.1)]
theorem sR {f:ac} (hR:em f.vars.length (rF f) (cD f)) (hm:wd f) {how:Int} {n:Nat} (hh:Dy how n):∀(qs:List (Int × Bool)) (l:List aA) (c:Bool),(∀q∈qs,q∈dS f)→qR f.vars.length l →
  qR f.vars.length (gD f how qs (l,c)).1∧(gD f how qs (l,c)).1=cH (rF f) (fp f n) (qs.map (·.1)) l∧((gD f how qs (l,c)).2=true↔c=true∨cH (rF f) (fp f n) (qs.map (·.1)) l≠l)
 |[],l,c,_,hl=>⟨hl,rfl,by simp[gD,cH]⟩
 |q::qs,l,c,hs,hl=>by
  have hq:=hs q (.head _)
  have hqv:q.1∈cD f:=List.mem_map.2 ⟨q,hq,rfl⟩
  obtain ⟨h1,h2,h3⟩:=nN hR (qX f n) hl hqv
  have hn:=yM hm hh l hq
  obtain ⟨g1,g2,g3⟩:=sR hR hm hh qs (bz (rF f) (fp f n) l q.1) (!decide (cV (rF f) (fp f n) l q.1=lv l q.1)||c) (fun x hx=>hs x (.tail _ hx)) h1
  have e:gD f how (q::qs) (l,c)=gD f how qs (bz (rF f) (fp f n) l q.1,!decide (cV (rF f) (fp f n) l q.1=lv l q.1)||c):=by
   show gD f how qs (iF f how (l,c) q)=_
   unfold iF bz
   dsimp only
   rw[hn]
  have e2:cH (rF f) (fp f n) ((q::qs).map (·.1)) l=cH (rF f) (fp f n) (qs.map (·.1)) (bz (rF f) (fp f n) l q.1):=rfl
  rw[e,e2]
  refine ⟨g1,g2,?_⟩
  rw[g3]
  obtain ⟨k1,k2,k3⟩:=k7 hR (qX f n) (qs.map (·.1)) (bz (rF f) (fp f n) l q.1) (fun x hx=>by obtain ⟨y,hy,rfl⟩:=List.mem_map.1 hx;exact List.mem_map.2 ⟨y,hs y (.tail _ hy),rfl⟩) h1
  by_cases c0:cV (rF f) (fp f n) l q.1=lv l q.1
  ·have hr:=hR.rng q.1 hqv
   have e3:=kp (rule:=rF f) (wid:=fp f n) (l:=l) (v:=q.1) hr.1 (by rw[hl.ok.1];omega) c0
   rw[e3,decide_eq_true c0]
   simp
  ·have h4:=h2.resolve_left c0
   rw[decide_eq_false c0]
   simp only[Bool.not_false,Bool.true_or,true_or,true_iff]
   refine .inr fun h=>?_
   rw[h] at k2
   omega
theorem nX {f:ac} (hR:em f.vars.length (rF f) (cD f)):∀(qs:List (Int × Bool)) (l:List aA) (c:Bool),(∀q∈qs,q∈dS f)→dj f.vars.length l →
  dj f.vars.length (gD f 2 qs (l,c)).1∧(gD f 2 qs (l,c)).1=(qs.map (·.1)).foldl (bj (rF f)) l
 |[],l,c,_,hl=>⟨hl,rfl⟩
 |q::qs,l,c,hs,hl=>by
  have hq:=hs q (.head _)
  have hqv:q.1∈cD f:=List.mem_map.2 ⟨q,hq,rfl⟩
  have h1:=lF hR hl hqv
  exact nX hR qs (bj (rF f) l q.1) (!decide (fU f l q.1 q.2 2=lv l q.1)||c) (fun x hx=>hs x (.tail _ hx)) h1
theorem Bl {f:ac} (hR:em f.vars.length (rF f) (cD f)) (how:Int):∀(qs:List (Int × Bool)) (s:List aA × Bool),(∀q∈qs,q∈dS f)→dj f.vars.length s.1→dj f.vars.length (gD f how qs s).1
 |[],s,_,hl=>hl
 |q::qs,s,hs,hl=>by
  have hq:=hs q (.head _)
  have hqv:q.1∈cD f:=List.mem_map.2 ⟨q,hq,rfl⟩
  have hr:=hR.rng q.1 hqv
  refine Bl hR how qs _ (fun x hx=>hs x (.tail _ hx)) ⟨by unfold iF;dsimp only;rw[List.length_set];exact hl.1,fun u hu=>?_⟩
  unfold iF
  dsimp only
  rw[lE hr.1 (by rw[hl.1];omega) _ hu]
  have h1:=hl.2 q.1 hr.1
  have h2:=hR.ok s.1 q.1 hl.1 hl.2 hqv
  split
  ·unfold fU
   split
   ·exact dF h1 h2
   ·split
    ·exact vZ (kY _) h1 h2
    ·exact kX h1 h2
  ·exact hl.2 u hu
def bW (f:ac):Nat→List aA
 |0=>dp f
 |i+1=>cH (rF f) (fp f (i+1)) (cD f) (bW f i)
structure pK (f:ac) (K:Nat):Prop where
 still:bW f (K+1)=bW f K
 moves:∀i,i<K→bW f (i+1)≠bW f i
def mC (f:ac) (K:Nat):List aA:=(cD f).foldl (bj (rF f)) ((cD f).foldl (bj (rF f)) (bW f K))
theorem uM (f:ac) (v:Int):bb (gP f v)∧nrm (gP f v):=by
 unfold gP
 split
 ·refine ⟨kY _,?_⟩
  unfold dE nrm
  (repeat' split)<;>exact fun h=>by revert h;decide
 ·exact ⟨⟨by decide,by decide⟩,fun h=>absurd h (by decide)⟩
theorem yN {f:ac} {u:Int} (hu:0≤u):lv (dp f) u=if u<f.vars.length then gj f u else bw:=by
 unfold lv dp
 rw[qr]
 by_cases c:u<f.vars.length
 ·rw[if_pos c,List.getElem?_range (by omega)]
  simp only[Option.map_some,Option.getD_some]
  rw[Int.toNat_of_nonneg hu]
 ·rw[if_neg c,List.getElem?_eq_none (by simp;omega)];rfl
theorem Bm (f:ac):qR f.vars.length (dp f):=by
 have key:∀u:Int,0≤u→bb (lv (dp f) u)∧nrm (lv (dp f) u):=fun u hu=>by
  rw[yN hu]
  have h0:bb bw∧nrm bw:=⟨gr,fun _=>rfl⟩
  split
  ·unfold gj
   split
   ·exact uM f u
   ·exact h0
  ·exact h0
 exact ⟨⟨gQ f,fun u hu=>(key u hu).1⟩,fun u hu=>(key u hu).2⟩
theorem qY {f:ac} (hR:em f.vars.length (rF f) (cD f)):∀i,qR f.vars.length (bW f i)
 |0=>Bm f
 |i+1=>(k7 hR (qX f (i+1)) (cD f) _ (fun _ h=>h) (qY hR i)).1
theorem yO {f:ac} (hR:em f.vars.length (rF f) (cD f)) {K:Nat} (h:pK f K):dj f.vars.length (mC f K)∧pG (rF f) (cD f) (mC f K):=by
 have h1:=qY hR K
 have h2:=yI (l3 hR (qX f (K+1)) (cD f) _ (fun _ h=>h) h1 h.still)
 obtain ⟨g1,g2⟩:=ko hR (cD f) _ (fun _ h=>h) h1.ok h2
 exact ko hR (cD f) _ (fun _ h=>h) g1 g2
end
section
section
variable {n:Nat} {rule:List aA→Int→aA} {vs:List Int} {phi:Int→Prop} {rank:Int→Nat}
end
section
variable {n:Nat} {rule:List aA→Int→aA} {vs:List Int} {phi:Int→Prop} {t:Int→aA}
end
end
section
open Go.Proofs
set_option maxRecDepth 20000
def aY (a b:Int):ac:=⟨[⟨⟨#[122]⟩,0⟩,⟨⟨#[110]⟩,0⟩,⟨⟨#[111,110,101]⟩,0⟩,⟨⟨#[105]⟩,0⟩,⟨⟨#[99]⟩,1⟩,⟨⟨#[106]⟩,0⟩,⟨⟨#[120,48]⟩,0⟩,⟨⟨#[120,49]⟩,0⟩],[],
 [⟨⟨#[97]⟩,[],[⟨0,0,[],a⟩,⟨0,1,[],b⟩,⟨0,2,[],1⟩],⟨0,0,1,0⟩⟩,
  ⟨⟨#[104]⟩,[⟨3,[0,5],[0,2]⟩],[⟨8,4,[3,1],0⟩],⟨1,4,2,3⟩⟩,
  ⟨⟨#[98]⟩,[],[⟨25,6,[3,1],0⟩,⟨17,-1,[6],0⟩,⟨2,5,[6,2],0⟩],⟨0,0,1,0⟩⟩,
  ⟨⟨#[122]⟩,[],[⟨25,7,[3,1],3⟩],⟨2,7,0,0⟩⟩]⟩
def uN (a b:Int):ac:=⟨[⟨⟨#[122]⟩,0⟩,⟨⟨#[110]⟩,0⟩,⟨⟨#[111,110,101]⟩,0⟩,⟨⟨#[105]⟩,0⟩,⟨⟨#[99]⟩,1⟩,⟨⟨#[106]⟩,0⟩],[],
 [⟨⟨#[97]⟩,[],[⟨0,0,[],a⟩,⟨0,1,[],b⟩,⟨0,2,[],1⟩],⟨0,0,1,0⟩⟩,
  ⟨⟨#[104]⟩,[⟨3,[0,5],[0,2]⟩],[⟨8,4,[3,1],0⟩],⟨1,4,2,3⟩⟩,
  ⟨⟨#[98]⟩,[],[⟨17,-1,[3],0⟩,⟨2,5,[3,2],0⟩],⟨0,0,1,0⟩⟩,
  ⟨⟨#[122]⟩,[],[],⟨2,3,0,0⟩⟩]⟩
def d9 (r:aA):aA:=aR r (dy,dz)
def dN (op num:Int) (p q:aA):aA:=if (iD p||(iD q||false))=true then bw else j9 op num [p,q] false
section
variable {a b:Int} {l:List aA}
theorem Bn:rF (aY a b) l 0=(a,a):=by kernel_rfl
theorem Bo:rF (aY a b) l 1=(b,b):=by kernel_rfl
theorem Bp:rF (aY a b) l 2=(1,1):=by kernel_rfl
theorem Bq:rF (aY a b) l 3=aI (aI bw (d9 (lv l 0))) (d9 (lv l 5)):=by kernel_rfl
theorem Br:rF (aY a b) l 4=dN 8 0 (d9 (lv l 3)) (d9 (lv l 1)):=by kernel_rfl
theorem Bs:rF (aY a b) l 6=dN 25 0 (d9 (lv l 3)) (d9 (lv l 1)):=by kernel_rfl
theorem Bt:rF (aY a b) l 5=dN 2 0 (d9 (lv l 6)) (d9 (lv l 2)):=by kernel_rfl
theorem Bu:rF (aY a b) l 7=dN 25 3 (d9 (lv l 3)) (d9 (lv l 1)):=by kernel_rfl
theorem sS:cD (aY a b)=[0,1,2,3,4,6,5,7]:=by kernel_rfl
theorem lK:dp (aY a b)=[bw,bw,bw,bw,bw,bw,bw,bw]:=by kernel_rfl
theorem Fo {m:Nat}:fp (aY a b) m 3=if 4≤m then some (dy,dz) else none:=by
 unfold fp
 rw[show (aZ (aY a b) 3).2=-1 by kernel_rfl,show dE (sG (aY a b) 3)=(dy,dz) by kernel_rfl]
 by_cases h:4≤m
 ·rw[if_pos ⟨h,rfl⟩,if_pos h]
 ·rw[if_neg (fun c=>h c.1),if_neg h]
theorem GK {m:Nat} {v:Int} (h:(aZ (aY a b) v).2≠-1):fp (aY a b) m v=none:=by unfold fp;exact if_neg fun c=>h c.2
theorem kx {m:Nat} {v:Int} (h:((aZ (aY a b) v).2 == -1)=false):fp (aY a b) m v=none:=GK (by simpa using h)
theorem jS {m:Nat} {z n o i c j x y z' n' o' i' c' j' x' y':aA} (h0:aI z (a,a)=z') (h1:aI n (b,b)=n') (h2:aI o (1,1)=o')
  (h3:(if 4≤m then jZ (dy,dz) i (aI (aI bw (d9 z')) (d9 j)) else aI i (aI (aI bw (d9 z')) (d9 j)))=i') (h4:aI c (dN 8 0 (d9 i') (d9 n'))=c') (h6:aI x (dN 25 0 (d9 i') (d9 n'))=x')
  (h5:aI j (dN 2 0 (d9 x') (d9 o'))=j') (h7:aI y (dN 25 3 (d9 i') (d9 n'))=y') :
  cH (rF (aY a b)) (fp (aY a b) m) (cD (aY a b)) [z,n,o,i,c,j,x,y]=[z',n',o',i',c',j',x',y']:=by
 obtain ⟨W,hW⟩:∃W,fp (aY a b) m=W:=⟨_,rfl⟩
 have w3:W 3=if 4≤m then some (dy,dz) else none:=by rw[←hW];exact Fo
 have w0:W 0=none:=by rw[←hW];exact kx (by kernel_rfl)
 have w1:W 1=none:=by rw[←hW];exact kx (by kernel_rfl)
 have w2:W 2=none:=by rw[←hW];exact kx (by kernel_rfl)
 have w4:W 4=none:=by rw[←hW];exact kx (by kernel_rfl)
 have w5:W 5=none:=by rw[←hW];exact kx (by kernel_rfl)
 have w6:W 6=none:=by rw[←hW];exact kx (by kernel_rfl)
 have w7:W 7=none:=by rw[←hW];exact kx (by kernel_rfl)
 rw[hW,sS]
 show bz _ W (bz _ W (bz _ W (bz _ W (bz _ W (bz _ W (bz _ W (bz _ W [z,n,o,i,c,j,x,y] 0) 1) 2) 3) 4) 6) 5) 7=_
 have e0:bz (rF (aY a b)) W [z,n,o,i,c,j,x,y] 0=[z',n,o,i,c,j,x,y]:=by
  unfold bz cV;rw[w0,Bn];show [aI z (a,a),n,o,i,c,j,x,y]=_;rw[h0]
 have e1:bz (rF (aY a b)) W [z',n,o,i,c,j,x,y] 1=[z',n',o,i,c,j,x,y]:=by
  unfold bz cV;rw[w1,Bo];show [z',aI n (b,b),o,i,c,j,x,y]=_;rw[h1]
 have e2:bz (rF (aY a b)) W [z',n',o,i,c,j,x,y] 2=[z',n',o',i,c,j,x,y]:=by
  unfold bz cV;rw[w2,Bp];show [z',n',aI o (1,1),i,c,j,x,y]=_;rw[h2]
 have e3:bz (rF (aY a b)) W [z',n',o',i,c,j,x,y] 3=[z',n',o',i',c,j,x,y]:=by
  unfold bz cV;rw[w3,Bq]
  by_cases hm:4≤m
  ·rw[if_pos hm] at h3 ⊢
   show [z',n',o',jZ (dy,dz) i (aI (aI bw (d9 z')) (d9 j)),c,j,x,y]=_;rw[h3]
  ·rw[if_neg hm] at h3 ⊢
   show [z',n',o',aI i (aI (aI bw (d9 z')) (d9 j)),c,j,x,y]=_;rw[h3]
 have e4:bz (rF (aY a b)) W [z',n',o',i',c,j,x,y] 4=[z',n',o',i',c',j,x,y]:=by
  unfold bz cV;rw[w4,Br];show [z',n',o',i',aI c (dN 8 0 (d9 i') (d9 n')),j,x,y]=_;rw[h4]
 have e6:bz (rF (aY a b)) W [z',n',o',i',c',j,x,y] 6=[z',n',o',i',c',j,x',y]:=by
  unfold bz cV;rw[w6,Bs];show [z',n',o',i',c',j,aI x (dN 25 0 (d9 i') (d9 n')),y]=_;rw[h6]
 have e5:bz (rF (aY a b)) W [z',n',o',i',c',j,x',y] 5=[z',n',o',i',c',j',x',y]:=by
  unfold bz cV;rw[w5,Bt];show [z',n',o',i',c',aI j (dN 2 0 (d9 x') (d9 o')),x',y]=_;rw[h5]
 have e7:bz (rF (aY a b)) W [z',n',o',i',c',j',x',y] 7=[z',n',o',i',c',j',x',y']:=by
  unfold bz cV;rw[w7,Bu];show [z',n',o',i',c',j',x',aI y (dN 25 3 (d9 i') (d9 n'))]=_;rw[h7]
 rw[e0,e1,e2,e3,e4,e6,e5,e7]
theorem nY {z n o i c j x y z' n' o' i' c' j' x' y':aA} (h0:aR z (a,a)=z') (h1:aR n (b,b)=n') (h2:aR o (1,1)=o')
  (h3:aR i (aI (aI bw (d9 z')) (d9 j))=i') (h4:aR c (dN 8 0 (d9 i') (d9 n'))=c') (h6:aR x (dN 25 0 (d9 i') (d9 n'))=x')
  (h5:aR j (dN 2 0 (d9 x') (d9 o'))=j') (h7:aR y (dN 25 3 (d9 i') (d9 n'))=y') :
  (cD (aY a b)).foldl (bj (rF (aY a b))) [z,n,o,i,c,j,x,y]=[z',n',o',i',c',j',x',y']:=by
 rw[sS]
 obtain ⟨R,hR⟩:∃R,rF (aY a b)=R:=⟨_,rfl⟩
 rw[hR]
 show bj R (bj R (bj R (bj R (bj R (bj R (bj R (bj R [z,n,o,i,c,j,x,y] 0) 1) 2) 3) 4) 6) 5) 7=_
 subst hR
 have e0:bj (rF (aY a b)) [z,n,o,i,c,j,x,y] 0=[z',n,o,i,c,j,x,y]:=by
  unfold bj;rw[Bn];show [aR z (a,a),n,o,i,c,j,x,y]=_;rw[h0]
 have e1:bj (rF (aY a b)) [z',n,o,i,c,j,x,y] 1=[z',n',o,i,c,j,x,y]:=by
  unfold bj;rw[Bo];show [z',aR n (b,b),o,i,c,j,x,y]=_;rw[h1]
 have e2:bj (rF (aY a b)) [z',n',o,i,c,j,x,y] 2=[z',n',o',i,c,j,x,y]:=by
  unfold bj;rw[Bp];show [z',n',aR o (1,1),i,c,j,x,y]=_;rw[h2]
 have e3:bj (rF (aY a b)) [z',n',o',i,c,j,x,y] 3=[z',n',o',i',c,j,x,y]:=by
  unfold bj;rw[Bq];show [z',n',o',aR i (aI (aI bw (d9 z')) (d9 j)),c,j,x,y]=_;rw[h3]
 have e4:bj (rF (aY a b)) [z',n',o',i',c,j,x,y] 4=[z',n',o',i',c',j,x,y]:=by
  unfold bj;rw[Br];show [z',n',o',i',aR c (dN 8 0 (d9 i') (d9 n')),j,x,y]=_;rw[h4]
 have e6:bj (rF (aY a b)) [z',n',o',i',c',j,x,y] 6=[z',n',o',i',c',j,x',y]:=by
  unfold bj;rw[Bs];show [z',n',o',i',c',j,aR x (dN 25 0 (d9 i') (d9 n')),y]=_;rw[h6]
 have e5:bj (rF (aY a b)) [z',n',o',i',c',j,x',y] 5=[z',n',o',i',c',j',x',y]:=by
  unfold bj;rw[Bt];show [z',n',o',i',c',aR j (dN 2 0 (d9 x') (d9 o')),x',y]=_;rw[h5]
 have e7:bj (rF (aY a b)) [z',n',o',i',c',j',x',y] 7=[z',n',o',i',c',j',x',y']:=by
  unfold bj;rw[Bu];show [z',n',o',i',c',j',x',aR y (dN 25 3 (d9 i') (d9 n'))]=_;rw[h7]
 rw[e0,e1,e2,e3,e4,e6,e5,e7]
end
theorem iG {u v:Int} (h:u≤v):aI bw (u,v)=(u,v):=by unfold aI bw cG;rw[if_pos (by decide),if_neg (by dsimp only;omega)]
theorem Dz {u v:Int} (h:u≤v):aI (u,v) bw=(u,v):=by unfold aI bw;rw[if_neg (by dsimp only;omega),if_pos (by decide)]
theorem jn {u v s t lo hi:Int} (h:u≤v) (k:s≤t) (e1:(if s<u then s else u)=lo) (e2:(if v<t then t else v)=hi):aI (u,v) (s,t)=(lo,hi):=by
 unfold aI b5 bK
 rw[if_neg (by dsimp only;omega),if_neg (by dsimp only;omega)]
 dsimp only
 rw[e1,e2]
theorem eb {u v s t lo hi:Int} (e1:(if u<s then s else u)=lo) (e2:(if t<v then t else v)=hi) (h:lo≤hi):aR (u,v) (s,t)=(lo,hi):=by
 unfold aR b5 bK cG
 dsimp only
 rw[e1,e2,if_neg (by omega)]
theorem EM {u v s t:Int} (h:(if t<v then t else v)<(if u<s then s else u)):aR (u,v) (s,t)=bw:=by
 unfold aR b5 bK cG
 dsimp only
 rw[if_pos h]
theorem gk {u v:Int} (hu:aK u) (hv:aK v) (h:u≤v):d9 (u,v)=(u,v):=by
 unfold aK at hu hv
 exact eb (by unfold dy;split<;>omega) (by unfold dz;split<;>omega) h
theorem nZ:d9 bw=bw:=by decide
theorem Bv {u v:Int} (h:u≤v):iD (u,v)=false:=decide_eq_false (by dsimp only;omega)
theorem uO (op num:Int) (q:aA):dN op num bw q=bw:=by unfold dN;rw[show iD bw=true from rfl,if_pos (by simp)]
theorem qZ {op num u v s t:Int} (h:u≤v) (k:s≤t):dN op num (u,v) (s,t)=j9 op num [(u,v),(s,t)] false:=by unfold dN;rw[Bv h,Bv k,if_neg (by simp)]
theorem Bw {u v b lo hi:Int} (h:u≤v) (e1:(if b≤v then (0:Int) else 1)=lo) (e2:(if u<b then (1:Int) else 0)=hi):dN 8 0 (u,v) (b,b)=(lo,hi):=by
 rw[qZ h (Int.le_refl b)]
 show GA (u,v) (b,b)=_
 unfold GA kZ
 dsimp only
 rw[←e1,←e2]
 by_cases c1:b≤v<;>by_cases c2:u<b<;>simp[c1,c2]
theorem we {u v b:Int} (h:u≤v):dN 25 0 (u,v) (b,b)=if b=dy then bw else aR (u,v) (dy,b - 1):=by
 rw[qZ h (Int.le_refl b)];rfl
theorem Bx {u v b:Int} (h:u≤v):dN 25 3 (u,v) (b,b)=aR (u,v) (b,dz):=by
 rw[qZ h (Int.le_refl b)];rfl
theorem rb {u v:Int} (h:u≤v) (hu:aK u) (hv:aK (v+1)):dN 2 0 (u,v) (1,1)=(u+1,v+1):=by
 rw[qZ h (Int.le_refl 1)]
 show lD 0 (u,v) (1,1) false=_
 unfold aK at hu hv
 have f1:dU 0 u 1:=show aK (u+1) from (by unfold aK;omega)
 have f2:dU 0 v 1:=show aK (v+1) from (by unfold aK;omega)
 unfold lD
 rw[if_pos (.inr ⟨f1,f1,f2,f2⟩)]
 unfold fR
 dsimp only
 rw[show eZ 0 u 1=u+1 from if_pos f1,show eZ 0 v 1=v+1 from if_pos f2]
 unfold du de
 (repeat' split)<;>simp_all<;>omega
def gx (a b:Int):List aA:=if b≤a then[(a,a),(b,b),(1,1),(a,a),(0,0),bw,bw,(a,a)] else[(a,a),(b,b),(1,1),(a,b),(0,1),(a+1,b - 1+1),(a,b - 1),(b,b)]
theorem DA {a b:Int} (ha:aK a) (hb:aK b) (h:b≤a):pK (aY a b) 1∧mC (aY a b) 1=gx a b:=by
 have ia:=gk ha ha (Int.le_refl a)
 have ib:=gk hb hb (Int.le_refl b)
 unfold aK at ha hb
 have r0:bW (aY a b) 0=[bw,bw,bw,bw,bw,bw,bw,bw]:=lK
 have hx:dN 25 0 (a,a) (b,b)=bw:=by
  rw[we (Int.le_refl a)]
  split
  ·rfl
  ·exact EM (by unfold dy;(repeat' split)<;>omega)
 have hy:dN 25 3 (a,a) (b,b)=(a,a):=by
  rw[Bx (Int.le_refl a)]
  exact eb (by split<;>omega) (by unfold dz;split<;>omega) (Int.le_refl a)
 have hc:dN 8 0 (a,a) (b,b)=(0,0):=Bw (Int.le_refl a) (if_pos h) (if_neg (by omega))
 have r1:bW (aY a b) 1=[(a,a),(b,b),(1,1),(a,a),(0,0),bw,bw,(a,a)]:=by
  show cH _ _ _ (bW (aY a b) 0)=_
  rw[r0]
  refine jS (z':=(a,a)) (n':=(b,b)) (o':=(1,1)) (i':=(a,a)) (c':=(0,0)) (j':=bw) (x':=bw) (y':=(a,a)) (iG (Int.le_refl a)) (iG (Int.le_refl b)) (by decide) ?_ ?_ ?_ ?_ ?_
  ·rw[if_neg (by decide),ia,nZ,iG (Int.le_refl a),Dz (Int.le_refl a),iG (Int.le_refl a)]
  ·rw[ia,ib,hc];decide
  ·rw[ia,ib,hx];decide
  ·rw[nZ,uO];decide
  ·rw[ia,ib,hy,iG (Int.le_refl a)]
 have r2:bW (aY a b) 2=[(a,a),(b,b),(1,1),(a,a),(0,0),bw,bw,(a,a)]:=by
  show cH _ _ _ (bW (aY a b) 1)=_
  rw[r1]
  have ja:aI (a,a) (a,a)=(a,a):=jn (Int.le_refl a) (Int.le_refl a) (by split<;>omega) (by split<;>omega)
  refine jS (z':=(a,a)) (n':=(b,b)) (o':=(1,1)) (i':=(a,a)) (c':=(0,0)) (j':=bw) (x':=bw) (y':=(a,a)) ja (jn (Int.le_refl b) (Int.le_refl b) (by split<;>omega) (by split<;>omega)) (by decide) ?_ ?_ ?_ ?_ ?_
  ·rw[if_neg (by decide),ia,nZ,iG (Int.le_refl a),Dz (Int.le_refl a),ja]
  ·rw[ia,ib,hc];decide
  ·rw[ia,ib,hx];decide
  ·rw[nZ,uO];decide
  ·rw[ia,ib,hy,ja]
 have n1:(cD (aY a b)).foldl (bj (rF (aY a b))) [(a,a),(b,b),(1,1),(a,a),(0,0),bw,bw,(a,a)]=[(a,a),(b,b),(1,1),(a,a),(0,0),bw,bw,(a,a)]:=by
  have ma:aR (a,a) (a,a)=(a,a):=eb (by split<;>omega) (by split<;>omega) (Int.le_refl a)
  refine nY (z':=(a,a)) (n':=(b,b)) (o':=(1,1)) (i':=(a,a)) (c':=(0,0)) (j':=bw) (x':=bw) (y':=(a,a)) ma (eb (by split<;>omega) (by split<;>omega) (Int.le_refl b)) (by decide) ?_ ?_ ?_ ?_ ?_
  ·rw[ia,nZ,iG (Int.le_refl a),Dz (Int.le_refl a),ma]
  ·rw[ia,ib,hc];decide
  ·rw[ia,ib,hx];decide
  ·rw[nZ,uO];decide
  ·rw[ia,ib,hy,ma]
 refine ⟨⟨by rw[r2,r1],fun i hi=>?_⟩,?_⟩
 ·obtain rfl:i=0:=by omega
  rw[r1,r0]
  intro e
  have e:=(List.cons.inj e).1
  have e1:a=1:=congrArg Prod.fst e
  have e2:a=0:=congrArg Prod.snd e
  omega
 ·unfold mC gx
  rw[r1,n1,n1,if_pos h]
section
variable {a b:Int} (ha:aK a) (hb:aK b) (hab:a<b)
theorem rc {h:Int} (hh:a≤h) (hab:a<b):dN 8 0 (a,h) (b,b)=(if b≤h then (0:Int) else 1,1):=Bw hh rfl (if_pos hab)
theorem rd {h w:Int} (ha:aK a) (hh:a≤h) (hab:a<b) (ew:(if b - 1<h then b - 1 else h)=w):dN 25 0 (a,h) (b,b)=(a,w):=by
 unfold aK at ha
 rw[we hh,if_neg (by unfold dy;omega)]
 exact eb (by unfold dy;split<;>omega) ew (by rw[←ew];split<;>omega)
theorem uP {h:Int} (hm:h≤dz) (hh:a≤h) (hab:a<b):dN 25 3 (a,h) (b,b)=if b≤h then (b,h) else bw:=by
 rw[Bx hh]
 by_cases c:b≤h
 ·rw[if_pos c];exact eb (by rw[if_pos hab]) (by rw[if_neg (by omega)]) c
 ·rw[if_neg c];exact EM (by rw[if_pos hab,if_neg (by omega)];omega)
theorem fq {m:Nat} {h w h' w':Int} {c c' y y':aA} (ha:aK a) (hb:aK b) (hab:a<b) (hw:a≤w) (hw2:w≤b - 1) (hh:a≤h') (hm:h'≤dz)
  (e3:(if 4≤m then jZ (dy,dz) (a,h) (a,w+1) else aI (a,h) (a,w+1))=(a,h')) (ew:(if b - 1<h' then b - 1 else h')=w') (hww:w≤w')
  (ec:aI c (if b≤h' then (0:Int) else 1,1)=c') (ey:aI y (if b≤h' then (b,h') else bw)=y') :
  cH (rF (aY a b)) (fp (aY a b) m) (cD (aY a b)) [(a,a),(b,b),(1,1),(a,h),c,(a+1,w+1),(a,w),y]=[(a,a),(b,b),(1,1),(a,h'),c',(a+1,w'+1),(a,w'),y']:=by
 have ha':=ha;have hb':=hb
 unfold aK at ha hb
 have hM:dz=9223372036854775807:=rfl
 have hw3:w'≤b - 1:=by rw[←ew];split<;>omega
 have ia:=gk ha' ha' (Int.le_refl a)
 have ib:=gk hb' hb' (Int.le_refl b)
 have ih:d9 (a,h')=(a,h'):=gk ha' (by unfold aK;omega) hh
 have iw:d9 (a,w')=(a,w'):=gk ha' (by unfold aK;omega) (by omega)
 have ij:d9 (a+1,w+1)=(a+1,w+1):=gk (by unfold aK;omega) (by unfold aK;omega) (by omega)
 have i1:d9 (1,1)=(1,1):=by decide
 refine jS (jn (Int.le_refl a) (Int.le_refl a) (by split<;>omega) (by split<;>omega)) (jn (Int.le_refl b) (Int.le_refl b) (by split<;>omega) (by split<;>omega)) (by decide) ?_ (i':=(a,h')) ?_ (x':=(a,w')) ?_ ?_ ?_
 ·rw[ia,ij,iG (Int.le_refl a),jn (lo:=a) (hi:=w+1) (Int.le_refl a) (by omega) (by split<;>omega) (by split<;>omega)];exact e3
 ·rw[ih,ib,rc hh hab];exact ec
 ·rw[ih,ib,rd ha' hh hab ew];exact jn hw (by omega) (by split<;>omega) (by split<;>omega)
 ·rw[iw,i1,rb (by omega) ha' (by unfold aK;omega)];exact jn (by omega) (by omega) (by split<;>omega) (by split<;>omega)
 ·rw[ih,ib,uP hm hh hab];exact ey
theorem DB (ha:aK a) (hb:aK b) (hab:a<b):bW (aY a b) 1=[(a,a),(b,b),(1,1),(a,a),(1,1),(a+1,a+1),(a,a),bw]:=by
 have ha':=ha;have hb':=hb
 unfold aK at ha hb
 have hM:dz=9223372036854775807:=rfl
 have ia:=gk ha' ha' (Int.le_refl a)
 have ib:=gk hb' hb' (Int.le_refl b)
 have i1:d9 (1,1)=(1,1):=by decide
 show cH _ _ _ (dp (aY a b))=_
 rw[lK]
 refine jS (iG (Int.le_refl a)) (iG (Int.le_refl b)) (by decide) ?_ (i':=(a,a)) ?_ (x':=(a,a)) ?_ ?_ ?_
 ·rw[if_neg (by decide),ia,nZ,iG (Int.le_refl a),Dz (Int.le_refl a),iG (Int.le_refl a)]
 ·rw[ia,ib,rc (Int.le_refl a) hab,if_neg (by omega)];decide
 ·rw[ia,ib,rd ha' (Int.le_refl a) hab (if_neg (by omega)),iG (Int.le_refl a)]
 ·rw[ia,i1,rb (Int.le_refl a) ha' (by unfold aK;omega),iG (Int.le_refl _)]
 ·rw[ia,ib,uP (by omega) (Int.le_refl a) hab,if_neg (by omega)];decide
theorem jT {h:Int} (ha:aK a) (hb:aK b) (hab:a<b) (hh:b≤h) (hm:h≤dz) :
  (cD (aY a b)).foldl (bj (rF (aY a b))) [(a,a),(b,b),(1,1),(a,h),(0,1),(a+1,b - 1+1),(a,b - 1),(b,h)]=[(a,a),(b,b),(1,1),(a,b),(0,1),(a+1,b - 1+1),(a,b - 1),(b,b)]:=by
 have ha':=ha;have hb':=hb
 unfold aK at ha hb
 have hM:dz=9223372036854775807:=rfl
 have ia:=gk ha' ha' (Int.le_refl a)
 have ib:=gk hb' hb' (Int.le_refl b)
 have iab:=gk ha' hb' (show a≤b by omega)
 have iw:d9 (a,b - 1)=(a,b - 1):=gk ha' (by unfold aK;omega) (by omega)
 have ij:d9 (a+1,b - 1+1)=(a+1,b - 1+1):=gk (by unfold aK;omega) (by unfold aK;omega) (by omega)
 have i1:d9 (1,1)=(1,1):=by decide
 refine nY (eb (by split<;>omega) (by split<;>omega) (Int.le_refl a)) (eb (by split<;>omega) (by split<;>omega) (Int.le_refl b)) (by decide) ?_ (i':=(a,b)) ?_ (x':=(a,b - 1)) ?_ ?_ ?_
 ·rw[ia,ij,iG (Int.le_refl a),jn (lo:=a) (hi:=b - 1+1) (Int.le_refl a) (by omega) (by split<;>omega) (by split<;>omega)]
  exact eb (by split<;>omega) (by split<;>omega) (by omega)
 ·rw[iab,ib,rc (by omega) hab,if_pos (Int.le_refl b)];decide
 ·rw[iab,ib,rd ha' (by omega) hab (w:=b - 1) (by split<;>omega)];exact eb (by split<;>omega) (by split<;>omega) (by omega)
 ·rw[iw,i1,rb (by omega) ha' (by unfold aK;omega)];exact eb (by split<;>omega) (by split<;>omega) (by omega)
 ·rw[iab,ib,uP (by omega) (by omega) hab,if_pos (Int.le_refl b)];exact eb (by split<;>omega) (by split<;>omega) (Int.le_refl b)
theorem pL {l l':List aA} {p q:aA} (h:l[3]?=some p) (h':l'[3]?=some q) (hne:p.2≠q.2):l≠l':=fun e=>by
 rw[e,h'] at h
 exact hne (congrArg Prod.snd (Option.some.inj h)).symm
theorem Bz (ha:aK a) (hb:aK b) (hab:a<b):∃K,pK (aY a b) K∧mC (aY a b) K=gx a b:=by
 have ha':=ha;have hb':=hb
 unfold aK at ha hb
 have hM:dz=9223372036854775807:=rfl
 have hm:dy=-9223372036854775808:=rfl
 have r0:bW (aY a b) 0=[bw,bw,bw,bw,bw,bw,bw,bw]:=lK
 have r1:=DB ha' hb' hab
 have hend:∀{K h:Int},True:=fun {_ _}=>trivial
 rcases (by omega:b=a+1∨b=a+2∨a+3≤b) with hd|hd|hd
 ·have r2:bW (aY a b) 2=[(a,a),(b,b),(1,1),(a,b),(0,1),(a+1,b - 1+1),(a,b - 1),(b,b)]:=by
   show cH _ _ _ (bW (aY a b) 1)=_
   rw[r1]
   exact fq ha' hb' hab (Int.le_refl a) (by omega) (by omega) (by omega) (by rw[if_neg (by decide)];exact jn (Int.le_refl a) (by omega) (by split<;>omega) (by split<;>omega)) (by split<;>omega) (by omega) (by rw[if_pos (Int.le_refl b)];decide) (by rw[if_pos (Int.le_refl b),iG (Int.le_refl b)])
  have r3:bW (aY a b) 3=bW (aY a b) 2:=by
   show cH _ _ _ (bW (aY a b) 2)=_
   rw[r2]
   exact fq ha' hb' hab (by omega) (Int.le_refl _) (by omega) (by omega) (by rw[if_neg (by decide)];exact jn (by omega) (by omega) (by split<;>omega) (by split<;>omega)) (by split<;>omega) (Int.le_refl _) (by rw[if_pos (Int.le_refl b)];decide) (by rw[if_pos (Int.le_refl b)];exact jn (Int.le_refl b) (Int.le_refl b) (by split<;>omega) (by split<;>omega))
  refine ⟨2,⟨r3,fun i hi=>?_⟩,?_⟩
  ·rcases (by omega:i=0∨i=1) with rfl|rfl
   ·rw[r1,r0]
    intro e
    have e:=(List.cons.inj e).1
    have e1:a=1:=congrArg Prod.fst e
    have e2:a=0:=congrArg Prod.snd e
    omega
   ·rw[r2,r1];exact pL rfl rfl (show b≠a by omega)
  ·unfold mC gx
   rw[r2,jT ha' hb' hab (Int.le_refl b) (by omega),jT ha' hb' hab (Int.le_refl b) (by omega),if_neg (by omega)]
 all_goals
  have r2:bW (aY a b) 2=[(a,a),(b,b),(1,1),(a,a+1),(1,1),(a+1,a+1+1),(a,a+1),bw]:=by
   show cH _ _ _ (bW (aY a b) 1)=_
   rw[r1]
   exact fq ha' hb' hab (Int.le_refl a) (by omega) (by omega) (by omega) (by rw[if_neg (by decide)];exact jn (Int.le_refl a) (by omega) (by split<;>omega) (by split<;>omega)) (by split<;>omega) (by omega) (by rw[if_neg (by omega)];decide) (by rw[if_neg (by omega)];decide)
 ·have r3:bW (aY a b) 3=[(a,a),(b,b),(1,1),(a,b),(0,1),(a+1,b - 1+1),(a,b - 1),(b,b)]:=by
   show cH _ _ _ (bW (aY a b) 2)=_
   rw[r2]
   exact fq ha' hb' hab (by omega) (by omega) (by omega) (by omega) (by rw[if_neg (by decide)];exact jn (by omega) (by omega) (by split<;>omega) (by split<;>omega)) (by split<;>omega) (by omega) (by rw[if_pos (Int.le_refl b)];decide) (by rw[if_pos (Int.le_refl b),iG (Int.le_refl b)])
  have r4:bW (aY a b) 4=bW (aY a b) 3:=by
   show cH _ _ _ (bW (aY a b) 3)=_
   rw[r3]
   exact fq ha' hb' hab (by omega) (Int.le_refl _) (by omega) (by omega) (by
    rw[if_pos (by decide)]
    unfold jZ
    rw[jn (lo:=a) (hi:=b) (by omega) (by omega) (by split<;>omega) (by split<;>omega)]
    dsimp only
    rw[if_neg (by omega),if_neg (by omega),if_neg (by omega)]) (by split<;>omega) (Int.le_refl _) (by rw[if_pos (Int.le_refl b)];decide) (by rw[if_pos (Int.le_refl b)];exact jn (Int.le_refl b) (Int.le_refl b) (by split<;>omega) (by split<;>omega))
  refine ⟨3,⟨r4,fun i hi=>?_⟩,?_⟩
  ·rcases (by omega:i=0∨i=1∨i=2) with rfl|rfl|rfl
   ·rw[r1,r0]
    intro e
    have e:=(List.cons.inj e).1
    have e1:a=1:=congrArg Prod.fst e
    have e2:a=0:=congrArg Prod.snd e
    omega
   ·rw[r2,r1];exact pL rfl rfl (show a+1≠a by omega)
   ·rw[r3,r2];exact pL rfl rfl (show b≠a+1 by omega)
  ·unfold mC gx
   rw[r3,jT ha' hb' hab (Int.le_refl b) (by omega),jT ha' hb' hab (Int.le_refl b) (by omega),if_neg (by omega)]
 ·have r3:bW (aY a b) 3=[(a,a),(b,b),(1,1),(a,a+2),(1,1),(a+1,a+2+1),(a,a+2),bw]:=by
   show cH _ _ _ (bW (aY a b) 2)=_
   rw[r2]
   exact fq ha' hb' hab (by omega) (by omega) (by omega) (by omega) (by rw[if_neg (by decide)];exact jn (by omega) (by omega) (by split<;>omega) (by split<;>omega)) (by split<;>omega) (by omega) (by rw[if_neg (by omega)];decide) (by rw[if_neg (by omega)];decide)
  have r4:bW (aY a b) 4=[(a,a),(b,b),(1,1),(a,dz),(0,1),(a+1,b - 1+1),(a,b - 1),(b,dz)]:=by
   show cH _ _ _ (bW (aY a b) 3)=_
   rw[r3]
   exact fq ha' hb' hab (by omega) (by omega) (by omega) (by omega) (by
    rw[if_pos (by decide)]
    unfold jZ
    rw[jn (lo:=a) (hi:=a+2+1) (by omega) (by omega) (by split<;>omega) (by split<;>omega)]
    dsimp only
    rw[if_neg (by omega),if_neg (by omega),if_pos (by omega)]
    unfold bK
    refine Prod.ext Z ?_
    dsimp only
    split<;>omega) (by split<;>omega) (by omega) (by rw[if_pos (by omega)];decide) (by rw[if_pos (by omega),iG (by omega)])
  have r5:bW (aY a b) 5=bW (aY a b) 4:=by
   show cH _ _ _ (bW (aY a b) 4)=_
   rw[r4]
   exact fq ha' hb' hab (by omega) (Int.le_refl _) (by omega) (Int.le_refl _) (by
    rw[if_pos (by decide)]
    unfold jZ
    rw[jn (lo:=a) (hi:=dz) (by omega) (by omega) (by split<;>omega) (by split<;>omega)]
    dsimp only
    rw[if_neg (by omega),if_neg (by omega),if_neg (by omega)]) (by split<;>omega) (Int.le_refl _) (by rw[if_pos (by omega)];decide) (by rw[if_pos (by omega)];exact jn (by omega) (by omega) (by split<;>omega) (by split<;>omega))
  refine ⟨4,⟨r5,fun i hi=>?_⟩,?_⟩
  ·rcases (by omega:i=0∨i=1∨i=2∨i=3) with rfl|rfl|rfl|rfl
   ·rw[r1,r0]
    intro e
    have e:=(List.cons.inj e).1
    have e1:a=1:=congrArg Prod.fst e
    have e2:a=0:=congrArg Prod.snd e
    omega
   ·rw[r2,r1];exact pL rfl rfl (show a+1≠a by omega)
   ·rw[r3,r2];exact pL rfl rfl (show a+2≠a+1 by omega)
   ·rw[r4,r3];exact pL rfl rfl (show dz≠a+2 by omega)
  ·unfold mC gx
   rw[r4,jT ha' hb' hab (by omega) (Int.le_refl _),jT ha' hb' hab (Int.le_refl b) (by omega),if_neg (by omega)]
end
theorem BA {a b:Int} (ha:aK a) (hb:aK b):∃K,pK (aY a b) K∧mC (aY a b) K=gx a b:=by
 by_cases h:b≤a
 ·exact ⟨1,DA ha hb h⟩
 ·exact Bz ha hb (by omega)
end
section
section
variable {E:World} {P:Program} {env:aH} {O:OL} {d ty:Nat} {pos:String} {af:Array Edge} {x y:Operand} {t u e:TypeId}
theorem Gv.quo {k:IntKind} {a b:Int} (hx:aP env x=.int k a) (hy:aP env y=.int k b) (hb:b≠0):Gv P env O (Oper.mk (some d) (.binOp .quo t x y u) ty pos af none) (.int k (k.wrap (a.tdiv b))):=qb fun I ρ h=>⟨_,rfl,fun w=>by
 rw[bL (fz h hx) (fz h hy) (by decide) (by decide)];simp[binOp,Op.intDiv,hb]⟩
theorem Gv.neg {k:IntKind} {a:Int} (hx:aP env x=.int k a):Gv P env O (Oper.mk (some d) (.unOp .neg t x) ty pos af none) (.int k (k.wrap (0 - a))):=qb fun I ρ h=>⟨_,rfl,fun w=>by
 simp[execOp,fz h hx,Op.unary,Op.intArith]⟩
theorem Gv.conv {k k':IntKind} {a:Int} {ds:TypeDesc} {src dst:TypeId} (hs:P.underlying src=some ds) (hd:P.underlying dst=some (.int k')) (hx:aP env x=.int k a):Gv P env O (Oper.mk (some d) (.convert src dst x) ty pos af none) (.int k' (k'.wrap a)):=qb fun I ρ h=>⟨_,rfl,fun w=>by
 simp only[execOp,fz h hx]
 cases ds<;>simp[convert,run_underlying hs,run_underlying hd,Conv.intToInt]⟩
end
end
section
section
variable {E:World} {P:Program} {n:Nat} {l:List Oper} {W:Nat→Bool} {Q:aH→OL→Prop} {fuel:Nat} {listed:Array Bool} {env:aH} {O Os Om:OL}
theorem bt.two {i j:Nat} {o o':Oper} (hi:l[i]?=some o) (hj:l[j]?=some o') (hr:Region.ready .any l.toArray listed=[i,j])
  (h:ai P E l.toArray (fun env' Om'=>bt P E l W Q fuel (listed.setIfInBounds i true) env' Os Om') [o] env Om)
  (h':ai P E l.toArray (fun env' Om'=>bt P E l W Q fuel (listed.setIfInBounds j true) env' Os Om') [o'] env Om):bt P E l W Q (fuel+1) listed env Os Om:=fun I F ρ w Ls h1 hLs h2=>by
 have key:∀k ok,ai P E l.toArray (fun env' Om'=>bt P E l W Q fuel (listed.setIfInBounds k true) env' Os Om') [ok] env Om →
   bx P l.toArray (fun ρ' w'=>(dX I.k [] E w'∧(dR W (listed.setIfInBounds k true)∨dX I.k Ls E w'))∧bE P l.toArray (dX I.k [] E) (dX I.k Ls E) W (eS I F E Q) fuel (listed.setIfInBounds k true) ρ' w') [ok] ρ w:=fun k ok h=>
  yt (fun ρ' w' ⟨J,env',Om',a,b,c,d⟩=>by
   have hst:dX I.k Ls E w':=by
    obtain ⟨J',L',h3,h4,h5⟩:=c.here
    exact ⟨J',L',a.k.trans h3,h4,h5⟩
   refine ⟨⟨hst.less,.inr hst⟩,bE.mono ?_ ?_ (fun _ _=>qe a) _ _ _ _ (d J F ρ' w' Ls b (hLs.mono a) c)⟩
   ·rintro w ⟨J',L',h3,h4⟩;exact ⟨J',L',a.k.trans h3,h4⟩
   ·rintro w ⟨J',L',h3,h4⟩;exact ⟨J',L',a.k.trans h3,h4⟩) _ _ _ (h I (Ls++F) ρ w h1 h2)
 refine ⟨fun h0=>(by rw[hr] at h0;cases h0),fun k hk o2 ho2=>?_⟩
 rw[hr] at hk
 simp only[List.mem_cons,List.not_mem_nil,or_false] at hk
 rw[List.getElem?_toArray] at ho2
 rcases hk with rfl|rfl
 ·rw[hi] at ho2;cases ho2;exact key _ _ h
 ·rw[hj] at ho2;cases ho2;exact key _ _ h'
end
end
section
section
variable {E:World} {P:Program} {n:Nat} {l:List Oper} {W:Nat→Bool} {Q:aH→OL→Prop} {fuel:Nat} {listed:Array Bool} {env:aH} {O Os Om:OL}
theorem bt.three {i j m:Nat} {o o' o'':Oper} (hi:l[i]?=some o) (hj:l[j]?=some o') (hm:l[m]?=some o'') (hr:Region.ready .any l.toArray listed=[i,j,m])
  (h:ai P E l.toArray (fun env' Om'=>bt P E l W Q fuel (listed.setIfInBounds i true) env' Os Om') [o] env Om)
  (h':ai P E l.toArray (fun env' Om'=>bt P E l W Q fuel (listed.setIfInBounds j true) env' Os Om') [o'] env Om)
  (h'':ai P E l.toArray (fun env' Om'=>bt P E l W Q fuel (listed.setIfInBounds m true) env' Os Om') [o''] env Om):bt P E l W Q (fuel+1) listed env Os Om:=fun I F ρ w Ls h1 hLs h2=>by
 have key:∀k ok,ai P E l.toArray (fun env' Om'=>bt P E l W Q fuel (listed.setIfInBounds k true) env' Os Om') [ok] env Om →
   bx P l.toArray (fun ρ' w'=>(dX I.k [] E w'∧(dR W (listed.setIfInBounds k true)∨dX I.k Ls E w'))∧bE P l.toArray (dX I.k [] E) (dX I.k Ls E) W (eS I F E Q) fuel (listed.setIfInBounds k true) ρ' w') [ok] ρ w:=fun k ok h=>
  yt (fun ρ' w' ⟨J,env',Om',a,b,c,d⟩=>by
   have hst:dX I.k Ls E w':=by
    obtain ⟨J',L',h3,h4,h5⟩:=c.here
    exact ⟨J',L',a.k.trans h3,h4,h5⟩
   refine ⟨⟨hst.less,.inr hst⟩,bE.mono ?_ ?_ (fun _ _=>qe a) _ _ _ _ (d J F ρ' w' Ls b (hLs.mono a) c)⟩
   ·rintro w ⟨J',L',h3,h4⟩;exact ⟨J',L',a.k.trans h3,h4⟩
   ·rintro w ⟨J',L',h3,h4⟩;exact ⟨J',L',a.k.trans h3,h4⟩) _ _ _ (h I (Ls++F) ρ w h1 h2)
 refine ⟨fun h0=>(by rw[hr] at h0;cases h0),fun k hk o2 ho2=>?_⟩
 rw[hr] at hk
 simp only[List.mem_cons,List.not_mem_nil,or_false] at hk
 rw[List.getElem?_toArray] at ho2
 rcases hk with rfl|rfl|rfl
 ·rw[hi] at ho2;cases ho2;exact key _ _ h
 ·rw[hj] at ho2;cases ho2;exact key _ _ h'
 ·rw[hm] at ho2;cases ho2;exact key _ _ h''
end
theorem aU.know {E:World} {P:Program} {f:FuncId} {as0:List AV} {O:OL} {R R':AV→OL→Prop} (h:aU P E f as0 O R) (hr:∀I F w v x O',R x O'→br I x v→fI I O' F E w→∃J y O'',I.le J∧br J y v∧fI J O'' F E w∧R' y O''):aU P E f as0 O R':=fun I F w vs h1 h2=>
 (h I F w vs h1 h2).mono fun v w' ⟨J,x,O',a,b,c,d⟩=>by
  obtain ⟨K,y,O'',e1,e2,e3,e4⟩:=hr J F w' v x O' d b c
  exact ⟨K,y,O'',a.trans e1,e2,e3,e4⟩
end
section
theorem cz.perm {O O':OL} {i:Nat} {o:bm} (h:cz O i o O'):O.Perm ((i,o)::O'):=by
 induction h with
 |head=>exact .refl _
 |tail _ ih=>exact (ih.cons _).trans (.swap _ _ _)
section
variable {E:World} {P:Program} {f:FuncId} {as0:List AV} {O:OL}
theorem aU.exact {γ:Type} {x:γ→AV} {M:γ→OL} {p:γ→Prop} (h:aU P E f as0 O (fun y O'=>∃g,y=x g∧Left O' (M g)∧p g)):aU P E f as0 O (fun y O'=>∃g,y=x g∧O'=M g∧p g):=
 h.know fun I F w v y O' ⟨g,e,hl,hp⟩ h1 h2=>⟨I,y,M g,.refl _,h1,hl.sla h2,g,e,rfl,hp⟩
end
end
section
open Go.ChangeShapes Go.WideShapes Go.ChangeAt Go.RowKit Go.Deep
def full (W:World):aC:=fun b=>W.heap[b]?
theorem DC (W:World):SL (full W) [] W W:=⟨rfl,rfl,rfl,fun _ _ h=>h,by simp,by simp,by simp,fun _ _ h=>h,(fun _ _ h h2=>by rw[show W.heap[_]?=some _ from h] at h2;cases h2),by simp⟩
def I0 (W:World):G:=⟨full W,fun _=>none⟩
def H8 (P:Program) (W:World) (T:TypeId) {α:Type} (enc:α→List AV) (ok:α→Prop):Prop:=
 ∀{H:Type} (e:TypeId × Value→H) (held:Bool) (fuel:Nat) (cs:List Value) (x:DataW H × List MemPlace),DataW.trod e P W 0 (fun _=>true) held fuel T cs=some x→∃a,ok a∧RepL (I0 W) (enc a) cs
section
variable {P:Program} {W:World} {T e:TypeId}
theorem H8.int {k:IntKind} (hu:P.underlying T=some (.int k)):H8 P W T (fun x:Int=>[.int k x]) (fun x=>(Lit.int k x).wf=true):=fun _ _ _ _ _ h=>by
 obtain ⟨n,rfl,_,hw⟩:=DataW.trod_int hu h
 exact ⟨n,hw,_,_,rfl,rfl,rfl⟩
end
theorem jd {P:Program} {W:World} {name:String} {k:IntKind} {zs:List Int} {g:Nat} {t e:TypeId} {n:Nat}
  (hg:P.globalNamed name=some g) (hty:(P.globals[g]?).map (·.type)=some t) (ht:P.underlying t=some (.array n e)) (he:P.underlying e=some (.int k)) (hce:P.cellsOf e=1) (hct:P.cellsOf t=n)
  (h:Lib.VarReads P W name (Lib.tabData k zs)):Lib.TabIs P W name k zs:=by
 obtain ⟨g',t',cs,fuel,p,hg',ht',hvar,hd⟩:=h
 obtain rfl:=Option.some.inj (hg.symm.trans hg')
 obtain rfl:=Option.some.inj (hty.symm.trans ht')
 unfold Lib.TabIs
 rw[hvar,←Lib.cells_of_tab ht he hce hct hd]
theorem aF.call {P:Program} {W:World} {f:FuncId} {us:List AV} {vs:List Value} {r:AV} (h:aF P W f us r) (hr:RepL (I0 W) us vs) (hp:r.plain=true):Calls P f vs.toArray W fun e w'=>∃v,e=.returned v∧br (I0 W) r v∧Below W.heap.size W w':=by
 have:=(h (I0 W) [] W vs hr ⟨⟨0,fun _ _=>rfl⟩,[],rfl,DC W⟩).2
 refine this.mono fun e w' ⟨v,he,J,x,O',hle,hx,hS,hxr⟩=>⟨v,he,?_,?_⟩
 ·subst hxr;exact AV.plain_rep hp hx
 ·obtain ⟨_,L,_,hSL⟩:=hS
  exact hSL.belowE
end
section
section
variable {E:World} {P:Program} {n:Nat} {env:aH} {O O' O'':OL} {i k m:Nat} {T:TypeId} {rows rows':List (List AV)}
end
section
variable {E:World} {P:Program} {f:FuncId} {us bs:List AV} {r:AV}
end
section
variable {E:World} {P:Program} {n:Nat} {ops:Array Oper} {K:aH→OL→Prop} {env:aH} {O O':OL} {rest:List Oper}
variable {d ty:Nat} {pos:String} {af:Array Edge} {t e:TypeId} {x y:Operand} {L:List (Nat × Obj)}
end
end
section
section
variable {E:World} {P:Program} {n:Nat} {ops:Array Oper} {K:aH→OL→Prop} {env:aH} {O O':OL} {rest:List Oper}
variable {d ty:Nat} {pos:String} {af:Array Edge} {t e:TypeId} {x y:Operand}
theorem RepR.drop {I:G} {k n c j:Nat} {a:Option Addr} {rows:List (List AV)} (hn:n=rows.length) (hnc:n≤c) (hr:RepR I k a 0 rows):RepR I k (if c=j then a else a.map (·.add (j*k))) 0 (rows.drop j):=
 RepR.intro fun j' r hj=>by
  rw[List.getElem?_drop] at hj
  have hlt:=(List.getElem?_eq_some_iff.1 hj).1
  obtain ⟨b,off,vs,rfl,h4,h5,h6⟩:=hr.get hj
  rw[if_neg (by omega)]
  refine ⟨b,off+j*k,vs,by simp[Addr.add],h4,h5,fun i u hu=>?_⟩
  have:=h6 i u hu
  rw[Nat.zero_add,Nat.add_mul] at this
  rw[Nat.zero_add]
  rwa [←Nat.add_assoc] at this
theorem Gv.cutLo {k j:Nat} {a:Int} {rows:List (List AV)} (ht:P.underlying t=some (.slice e)) (hs:∀w,(sizeOf e).run P w=.ok k w) (hx:aP env x=.fro k rows) (hy:aP env y=.int .i64 a) (hi:a=(j:Int)) (hj:j≤rows.length) :
  Gv P env O (Oper.mk (some d) (.slice t x (some y) none none) ty pos af none) (.fro k (rows.drop j)):=qb fun I ρ h=>by
 have h2:=h.ev x
 rw[hx] at h2
 obtain ⟨p,n,c,ex,hn,hnc,hnil,hr⟩:=h2
 have h3:=fz h hy
 subst hi
 refine ⟨.slice (if c=j then p else p.map (·.add (j*k))) (n - j) (c - j),⟨_,_,_,Z,by rw[List.length_drop,hn],by omega,fun hp=>?_,hr.drop hn hnc⟩,fun w=>?_⟩
 ·split at hp
  ·omega
  ·cases p with
   |none=>have:=hnil rfl;omega
   |some q=>cases hp
 ·have hjn:j≤n:=by omega
  simp[execOp,Instr.sliceAt,Instr.slice,Instr.sliceBounds,Instr.sliceBound,asIntOf,Sem.run_bind,run_underlying ht,hs,ex,h3,hjn]
theorem Gv.cutLoM {α:Type} {enc:α→List AV} {xs:List α} {k j:Nat} {a:Int} (ht:P.underlying t=some (.slice e)) (hs:∀w,(sizeOf e).run P w=.ok k w) (hx:aP env x=.fro k (xs.map enc)) (hy:aP env y=.int .i64 a) (hi:a=(j:Int)) (hj:j≤xs.length) :
  Gv P env O (Oper.mk (some d) (.slice t x (some y) none none) ty pos af none) (.fro k ((xs.drop j).map enc)):=by
 have:=Gv.cutLo (d:=d) (ty:=ty) (pos:=pos) (af:=af) (O:=O) ht hs hx hy hi (by rwa [qq])
 rwa [←List.map_drop] at this
end
set_option linter.defProp false
def zd:=@cz.perm
def yg:=@bt.two
def qh:=@bt.three
end
end Go.Proofs.YthphijnnbfjikaaGreatDoor
