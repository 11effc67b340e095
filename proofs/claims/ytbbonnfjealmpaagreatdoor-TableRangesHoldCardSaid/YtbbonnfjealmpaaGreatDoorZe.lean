/- A program's graph; where its variables are made; what is single: plain law. No conditions. -/
import Derived.Test.YtbbonnfjealmpaaGreatDoorZd
import Derived.Test.YtbbonnfjealmpaaGreatDoorZa
import Derived.Test.YtbbonnfjealmpaaGreatDoorZc
set_option linter.unusedVariables false
set_option linter.unusedSimpArgs false
set_option linter.unusedSectionVars false
namespace Go.Proofs.YtbbonnfjealmpaaGreatDoor
section
open Go.Proofs.Tryz
open Go.Proofs
variable {E:World}
set_option maxRecDepth 20000
theorem Ax {k:Nat} (hk:k≤2) {x y:Int} (hx:bg x) (hy:bg y):aP prog E 92 [.int .i64 k,.int .i64 x,.int .i64 y] (.bool (decide (dk k x y))):=by
 have hx1:=hx;have hy1:=hy
 unfold bg at hx1 hy1
 refine zp func92 U (by decide) U<|ae<|ad U<|z2<|zb<|ae<|aa U<|z2<|zi<|ae<|ao U U<|ad U<|z2<|zn U (fun c0=>?_) (fun c0=>?_)
 ·have hk0:k=0:=by omega
  subst hk0
  refine ae<|aa U<|be U U<|aq U<|zt (s:=16) U (fun c1=>?_) (fun c1=>?_)
  ·refine z7 U U c1<|aa U<|z7 U U c1<|aa U<|z7 U U c1<|z8 (Gv.sub U U (by unfold lz;simp at *;omega))<|z7 U U c1<|be U U<|au U c1 U<|aJ U<|aq U<|zt (s:=23) U (fun c2=>?_) (fun c2=>?_)
   ·refine z7 U U c2<|aa U<|z7 U U c2<|ap U U<|z7 U U c2<|aq U<|zt (s:=26) U (fun c3=>?_) (fun c3=>?_)
    ·refine z7 U U c3<|aa U<|z7 U U c3<|aa U<|z7 U U c3<|z8 (Gv.sub U U (by unfold lz;simp at *;omega))<|z7 U U c3<|ap U U<|z7 U U c2<|au U c3 U<|z7 U U c2<|aJ U<|au U c2 U<|ad U<|z2<|zg<|zm (x:=.bool _) U ?_
     exact jb (by rw[w8];unfold dk gP bg;simp at *<;>omega)
    ·refine z6 U U c3<|z6 U U c3<|z6 U U c3<|z6 U U c3<|z7 U U c2<|aw U c3 U<|z7 U U c2<|aJ U<|au U c2 U<|ad U<|z2<|zg<|zm (x:=.bool _) U ?_
     exact jb (by rw[w8];unfold dk gP bg;simp at *<;>omega)
   ·refine z6 U U c2<|z6 U U c2<|z6 U U c2<|zk U U<|zk U U<|zk U U<|zk U U<|z6 U U c2<|z6 U U c2<|aw U c2 U<|ad U<|z2<|zg<|zm (x:=.bool _) U ?_
    exact jb (by rw[w8];unfold dk gP bg;simp at *<;>omega)
  ·refine z6 U U c1<|z6 U U c1<|z6 U U c1<|z6 U U c1<|aw U c1 U<|aJ U<|aq U<|z7 U U U<|aa U<|z7 U U U<|ap U U<|z7 U U U<|aq U<|zt (s:=26) U (fun c4=>?_) (fun c4=>?_)
   ·refine z7 U U c4<|aa U<|z7 U U c4<|aa U<|z7 U U c4<|z8 (Gv.sub U U (by unfold lz;simp at *;omega))<|z7 U U c4<|ap U U<|z7 U U U<|au U c4 U<|z7 U U U<|aJ U<|au U U U<|ad U<|z2<|zg<|zm (x:=.bool _) U ?_
    exact jb (by rw[w8];unfold dk gP bg;simp at *<;>omega)
   ·refine z6 U U c4<|z6 U U c4<|z6 U U c4<|z6 U U c4<|z7 U U U<|aw U c4 U<|z7 U U U<|aJ U<|au U U U<|ad U<|z2<|zg<|zm (x:=.bool _) U ?_
    exact jb (by rw[w8];unfold dk gP bg;simp at *<;>omega)
 ·refine ae<|ao U U<|ad U<|z2<|zn U (fun c1=>?_) (fun c1=>?_)
  ·have hk1:k=1:=by omega
   subst hk1
   refine ae<|aa U<|ap U U<|aq U<|zt (s:=38) U (fun c5=>?_) (fun c5=>?_)
   ·refine z7 U U c5<|aa U<|z7 U U c5<|aa U<|z7 U U c5<|z8 (Gv.add U U (by unfold lz;simp at *;omega))<|z7 U U c5<|be U U<|au U c5 U<|aJ U<|aq U<|zt (s:=45) U (fun c6=>?_) (fun c6=>?_)
    ·refine z7 U U c6<|aa U<|z7 U U c6<|be U U<|z7 U U c6<|aq U<|zt (s:=48) U (fun c7=>?_) (fun c7=>?_)
     ·refine z7 U U c7<|aa U<|z7 U U c7<|aa U<|z7 U U c7<|z8 (Gv.add U U (by unfold lz;simp at *;omega))<|z7 U U c7<|ap U U<|z7 U U c6<|au U c7 U<|z7 U U c6<|aJ U<|au U c6 U<|ad U<|z2<|zg<|zm (x:=.bool _) U ?_
      exact jb (by rw[w8];unfold dk gP bg;simp at *<;>omega)
     ·refine z6 U U c7<|z6 U U c7<|z6 U U c7<|z6 U U c7<|z7 U U c6<|aw U c7 U<|z7 U U c6<|aJ U<|au U c6 U<|ad U<|z2<|zg<|zm (x:=.bool _) U ?_
      exact jb (by rw[w8];unfold dk gP bg;simp at *<;>omega)
    ·refine z6 U U c6<|z6 U U c6<|z6 U U c6<|zk U U<|zk U U<|zk U U<|zk U U<|z6 U U c6<|z6 U U c6<|aw U c6 U<|ad U<|z2<|zg<|zm (x:=.bool _) U ?_
     exact jb (by rw[w8];unfold dk gP bg;simp at *<;>omega)
   ·refine z6 U U c5<|z6 U U c5<|z6 U U c5<|z6 U U c5<|aw U c5 U<|aJ U<|aq U<|z7 U U U<|aa U<|z7 U U U<|be U U<|z7 U U U<|aq U<|zt (s:=48) U (fun c8=>?_) (fun c8=>?_)
    ·refine z7 U U c8<|aa U<|z7 U U c8<|aa U<|z7 U U c8<|z8 (Gv.add U U (by unfold lz;simp at *;omega))<|z7 U U c8<|ap U U<|z7 U U U<|au U c8 U<|z7 U U U<|aJ U<|au U U U<|ad U<|z2<|zg<|zm (x:=.bool _) U ?_
     exact jb (by rw[w8];unfold dk gP bg;simp at *<;>omega)
    ·refine z6 U U c8<|z6 U U c8<|z6 U U c8<|z6 U U c8<|z7 U U U<|aw U c8 U<|z7 U U U<|aJ U<|au U U U<|ad U<|z2<|zg<|zm (x:=.bool _) U ?_
     exact jb (by rw[w8];unfold dk gP bg;simp at *<;>omega)
  ·have hk2:k=2:=by omega
   subst hk2
   refine zf<|zb<|zb<|yb (γ:=Bool) [1,2] (fun u=>[(61,.bool u)]) (fun u=>[]) (fun u=>u=decide (x=0∨y=0)) ?_ (fun _ _ h=>h) ?_
   ·refine aW<|aa U<|ao U U<|aq U<|zt (s:=58) U (fun c9=>?_) (fun c9=>?_)
    ·refine z6 U U c9<|z6 U U c9<|au U c9 U<|z2 ?_
     exact ⟨_,b7,aL,aE,by simp_all⟩
    ·refine z7 U U c9<|aa U<|z7 U U c9<|ao U U<|aw U c9 U<|z2 ?_
     exact ⟨_,b7,aL,aE,by simp_all⟩
   ·rintro u hu
    subst hu
    refine zn U (fun cz=>?_) (fun cz=>?_)
    ·refine ae<|ad U<|z2<|zg<|zm (x:=.bool _) U ?_
     exact jb (by rw[we];unfold dk;rw[show gP 2 x y=x*y from rfl];rcases cz with h|h<;>rw[h]<;>simp[bg])
    ·have hx0:x≠0:=fun e=>cz (.inl e)
     have hy0:y≠0:=fun e=>cz (.inr e)
     refine zf<|ae<|aa U<|ap U U<|aa U<|ap U U<|z8 (Gv.eqlB Yo U U)<|ad U<|z2<|ae<|aa U<|z8 (ql Zu Zq U)<|aa U<|z8 (ql Zu Zq U)<|am U<|am U<|z2<|zb<|ae<|aa U<|ap U U<|z2<|yb (γ:=Int) [2,7,9] (fun u=>[(8,.int .u64 u)]) (fun u=>[]) (fun u=>u=(x.natAbs:Int)) ?_ (fun _ _ h=>h) ?_
     ·refine zn U (fun c=>?_) (fun c=>?_)
      ·refine aW<|aa U<|z8 (Gv.neg U)<|am U<|z2 ?_
       exact ⟨_,bW,aL,aE,by have:=lQ hx;rwa [if_pos c] at this⟩
      ·refine zf ?_
       exact ⟨_,bW,aL,aE,by have:=lQ hx;rwa [if_neg c] at this⟩
     ·rintro u hu
      subst hu
      refine zb<|ae<|aa U<|ap U U<|z2<|yb (γ:=Int) [7,8] (fun u=>[(9,.int .u64 u)]) (fun u=>[]) (fun u=>u=(y.natAbs:Int)) ?_ (fun _ _ h=>h) ?_
      ·refine zn U (fun c=>?_) (fun c=>?_)
       ·refine aW<|aa U<|z8 (Gv.neg U)<|am U<|z2 ?_
        exact ⟨_,b7,aL,aE,by have:=lQ hy;rwa [if_pos c] at this⟩
       ·refine zf ?_
        exact ⟨_,b7,aL,aE,by have:=lQ hy;rwa [if_neg c] at this⟩
      ·rintro u hu
       subst hu
       refine ae<|am U<|z2<|zb<|ae<|aq U<|aJ U<|z2<|yb (γ:=Int) [8,9] (fun u=>[(10,.int .u64 u)]) (fun u=>[]) (fun u=>u=(if (decide (x<0) == decide (y<0))=true then 9223372036854775807 else 9223372036854775808)) ?_ (fun _ _ h=>h) ?_
       ·refine zw U (fun c=>?_) (fun c=>?_)
        ·refine aW<|am U<|z2 ?_
         exact ⟨_,b7,aL,aE,by rw[if_neg (by simpa using c)]⟩
        ·refine zf ?_
         exact ⟨_,b7,aL,aE,by rw[if_pos (by simpa using c)]⟩
       ·rintro u hu
        subst hu
        refine ae<|aa U<|aa U<|aa U<|z8 (Gv.quo U U (by omega))<|z8 (Gv.leq U U)<|ad U<|z2<|zg<|zm (x:=.bool _) U ?_
        exact jb (Mn hx hx0 hy0)
theorem Lb {k:Nat} (hk:k≤2) {x y:Int}:aP prog E 96 [.int .i64 k,.int .i64 x,.int .i64 y] (.int .i64 (IntKind.i64.wrap (gP k x y))):=by
 refine zp func96 U (by decide) U<|ae<|am U<|z2<|zb<|ae<|aa U<|z2<|zi<|ae<|ao U U<|ad U<|z2<|zn U (fun c0=>?_) (fun c0=>?_)
 ·have hk0:k=0:=by omega
  subst hk0
  refine ae<|aa U<|z8 (ql Zu Zq U)<|aa U<|z8 (ql Zu Zq U)<|z8 (Gv.addW U U)<|z8 (ql Zq Zu U)<|am U<|z2<|zg<|zm (x:=.int _ _) U ?_
  exact congrArg (AV.int .i64) (CY x y)
 ·refine ae<|ao U U<|ad U<|z2<|zn U (fun c1=>?_) (fun c1=>?_)
  ·have hk1:k=1:=by omega
   subst hk1
   refine ae<|aa U<|z8 (ql Zu Zq U)<|aa U<|z8 (ql Zu Zq U)<|z8 (Gv.subW U U)<|z8 (ql Zq Zu U)<|am U<|z2<|zg<|zm (x:=.int _ _) U ?_
   exact congrArg (AV.int .i64) (CZ x y)
  ·have hk2:k=2:=by omega
   subst hk2
   refine zf<|ae<|aa U<|z8 (ql Zu Zq U)<|aa U<|z8 (ql Zu Zq U)<|z8 (Gv.mulW U U)<|z8 (ql Zq Zu U)<|am U<|z2<|zg<|zm (x:=.int _ _) U ?_
   exact congrArg (AV.int .i64) (C0 x y)
theorem Lc {x y:Int} (hy:y≠0):aP prog E 97 [.int .i64 x,.int .i64 y] (.tup [.int .i64 (IntKind.i64.wrap (x.tdiv y)),.int .i64 (if y=-1 then 0 else IntKind.i64.wrap (x - IntKind.i64.wrap (IntKind.i64.wrap (x.tdiv y)*y)))]):=by
 refine zp func97 U (by decide) U<|ae<|am U<|am U<|z2<|zb<|ae<|aa U<|ao U U<|z2<|zn U (fun c=>?_) (fun c=>?_)
 ·refine ae<|aa U<|z8 (ql Zu Zq U)<|z8 (Gv.neg U)<|z8 (ql Zq Zu U)<|am U<|am U<|z2<|zg<|qn (x:=.int _ _) (y:=.int _ _) U U ?_
  rw[if_pos c,c,C1];try rfl
 ·refine zf<|zb<|zr (fun j=>false) (by kernel_rfl) U (zo (.rest _))<|ai 0 U (dx U)<|ai 1 U (dx U)<|ai 2 U (Gv.quo U U (by omega))<|ai 3 U (dx U)<|ai 4 U (dx U)<|ai 5 U (dx U)<|ai 6 U (Gv.quo U U (by omega))<|ai 7 U (dx U)<|ai 8 U (Gv.mulW U U)<|ai 9 U (Gv.subW U U)<|ai 10 U (BI U)<|ai 11 U (BI U)<|bI<|zg<|qn (x:=.int _ _) (y:=.int _ _) U U ?_
  rw[if_neg c];try rfl
end
section
open Go.Proofs.Tryz
inductive jZ (S:Int→List Int) (p:Int→Prop) (r:Int):Int→Prop
 |refl:p r→jZ S p r r
 |step {b c}:jZ S p r b→c∈S b→p c→jZ S p r c
theorem jZ.end_ {S:Int→List Int} {p:Int→Prop} {r b:Int} (h:jZ S p r b):p b:=by cases h<;>assumption
theorem jZ.start {S:Int→List Int} {p:Int→Prop} {r b:Int} (h:jZ S p r b):p r:=by induction h<;>assumption
theorem jZ.mono {S:Int→List Int} {p q:Int→Prop} {r b:Int} (hpq:∀x,p x→q x) (h:jZ S p r b):jZ S q r b:=by
 induction h with
 |refl h=>exact .refl (hpq _ h)
 |step _ h1 h2 ih=>exact .step ih h1 (hpq _ h2)
theorem jZ.trans {S:Int→List Int} {p:Int→Prop} {r b c:Int} (h:jZ S p r b) (k:jZ S p b c):jZ S p r c:=by
 induction k with
 |refl _=>exact h
 |step _ h1 h2 ih=>exact .step ih h1 h2
theorem jZ.self {S:Int→List Int} {p:Int→Prop} {r b:Int} (h:jZ S p r b):jZ S (fun x=>p x∧jZ S p r x) r b:=by
 induction h with
 |refl h=>exact .refl ⟨h,.refl h⟩
 |step h0 h1 h2 ih=>exact .step ih h1 ⟨h2,.step h0 h1 h2⟩
theorem jZ.last {S:Int→List Int} {p:Int→Prop} {r b:Int} (h:jZ S p r b):b=r∨∃c,c∈S r∧jZ S (fun x=>p x∧x≠r) c b:=by
 induction h with
 |refl h=>exact .inl rfl
 |@step b c h0 h1 h2 ih=>
  by_cases hc:c=r
  ·exact .inl hc
  ·right
   rcases ih with rfl|⟨d,hd,hw⟩
   ·exact ⟨c,h1,.refl ⟨h2,hc⟩⟩
   ·exact ⟨d,hd,.step hw h1 ⟨h2,hc⟩⟩
inductive ii (S:Int→List Int) (at_:Int→Int) (p:Int→Prop) (r:Int):Nat→Int→Prop
 |refl {k}:p r→ii S at_ p r k r
 |fwd {k b c}:ii S at_ p r k b→c∈S b→at_ b<at_ c→p c→ii S at_ p r k c
 |back {k b c}:ii S at_ p r k b→c∈S b→p c→ii S at_ p r (k+1) c
theorem ii.end_ {S:Int→List Int} {at_:Int→Int} {p:Int→Prop} {r b:Int} {k:Nat} (h:ii S at_ p r k b):p b:=by cases h<;>assumption
theorem ii.way {S:Int→List Int} {at_:Int→Int} {p:Int→Prop} {r b:Int} {k:Nat} (h:ii S at_ p r k b):jZ S p r b:=by
 induction h with
 |refl h=>exact .refl h
 |fwd _ h1 _ h2 ih=>exact .step ih h1 h2
 |back _ h1 h2 ih=>exact .step ih h1 h2
theorem ii.ahead {S:Int→List Int} {at_:Int→Int} {p q:Int→Prop} {r c b:Int} {k:Nat} (h:ii S at_ q c k b) (hqp:∀x,q x→p x) (hr:p r) (hc:c∈S r):ii S at_ p r (k+1) b:=by
 induction h with
 |refl h=>exact .back (.refl hr) hc (hqp _ h)
 |fwd _ h1 h2 h3 ih=>exact .fwd ih h1 h2 (hqp _ h3)
 |back _ h1 h2 ih=>exact .back ih h1 (hqp _ h2)
theorem jZ.short {S:Int→List Int} (at_:Int→Int):∀(n:Nat) (V:List Int) (p:Int→Prop) (r b:Int),V.length=n→(∀x,p x→x∈V)→jZ S p r b→∃k,k+1≤n∧ii S at_ p r k b
 |0,V,p,r,b,hl,hV,h=>by
  have:=hV _ h.start
  rw[wa hl] at this;cases this
 |n+1,V,p,r,b,hl,hV,h=>by
  rcases h.last with rfl|⟨c,hc,hw⟩
  ·exact ⟨0,by omega,.refl h.start⟩
  ·have hr:=hV _ h.start
   obtain ⟨k,hk,hb⟩:=jZ.short at_ n (V.erase r) (fun x=>p x∧x≠r) c b (by rw[List.length_erase_of_mem hr,hl];rfl) (fun x hx=>(List.mem_erase_of_ne hx.2).2 (hV x hx.1)) hw
   exact ⟨k+1,by omega,hb.ahead (fun x hx=>hx.1) h.start hc⟩
def nD (S:Int→List Int) (b:Int):Prop:=jZ S (fun _=>True) 0 b
def gC (S:Int→List Int) (a b:Int):Prop:=nD S b∧¬jZ S (fun x=>x≠a) 0 b
section
variable {S:Int→List Int}
theorem gC.refl {b:Int} (h:nD S b):gC S b b:=⟨h,fun hw=>hw.end_ rfl⟩
theorem gC.root {b:Int} (h:nD S b):gC S 0 b:=⟨h,fun hw=>hw.start rfl⟩
theorem gC.rch {a b:Int} (h:gC S a b):nD S a:=by
 refine Classical.byContradiction fun hn=>h.2 ?_
 exact (jZ.self h.1).mono fun x hx e=>hn (e▸hx.2)
theorem gC.trans {a b c:Int} (h:gC S a b) (k:gC S b c):gC S a c:=by
 refine ⟨k.1,fun hw=>?_⟩
 refine k.2<|hw.self.mono fun x hx e=>?_
 subst e
 exact h.2 hx.2
theorem gC.pred {a b p:Int} (h:gC S a b) (hp:nD S p) (he:b∈S p) (hab:a≠b):gC S a p:=
 ⟨hp,fun hw=>h.2 (.step hw he (fun e=>hab e.symm))⟩
theorem gC.of_preds {a b:Int} (hb:nD S b) (h0:b≠0) (h:∀p,nD S p→b∈S p→gC S a p):gC S a b:=by
 refine ⟨hb,fun hw=>?_⟩
 cases hw with
 |refl _=>exact h0 rfl
 |step h1 h2 h3=>exact (h _ (h1.mono fun _ _=>trivial) h2).2 h1
end
inductive iN (N:Int→Int):Int→Int→Prop
 |refl (x):iN N x x
 |up {x a}:x≠0→N x≠-1→iN N (N x) a→iN N x a
theorem iN.trans {N:Int→Int} {x y z:Int} (h:iN N x y) (k:iN N y z):iN N x z:=by
 induction h with
 |refl=>exact k
 |up h1 h2 _ ih=>exact .up h1 h2 (ih k)
theorem iN.cases' {N:Int→Int} {x a:Int} (h:iN N x a):a=x∨(x≠0∧N x≠-1∧iN N (N x) a):=by
 cases h with
 |refl=>exact .inl rfl
 |up h1 h2 h3=>exact .inr ⟨h1,h2,h3⟩
structure tm (S:Int→List Int) (at_:Int→Int) (V:List Int):Prop where
 mem:∀b,b∈V↔nD S b
 pos:∀b,b∈V↔0≤at_ b
 inj:∀a b,a∈V→b∈V→at_ a=at_ b→a=b
 zero:at_ 0=0
 fwd:∀b,b∈V→b≠0→∃p,p∈V∧b∈S p∧at_ p<at_ b
 none:∀b,b ∉ V→at_ b=-1
 nn:∀b,b∈V→0≤b
structure j5 (S:Int→List Int) (at_:Int→Int) (V:List Int) (N:Int→Int):Prop where
 zero:N 0=0
 mem:∀b,N b≠-1→b∈V
 near:∀b,b≠0→N b≠-1→N b∈V∧N (N b)≠-1∧at_ (N b)<at_ b
 path:∀b,b≠0→N b≠-1→jZ S (fun x=>at_ (N b)≤at_ x) (N b) b
 dom:∀b d,N b≠-1→gC S d b→iN N b d
section
variable {S:Int→List Int} {at_:Int→Int} {V:List Int} {N:Int→Int}
theorem tm.zmem (hV:tm S at_ V):(0:Int)∈V:=(hV.mem 0).2 (.refl trivial)
theorem j5.anc (hN:j5 S at_ V N) {x a:Int} (hx:N x≠-1) (h:iN N x a):N a≠-1∧at_ a≤at_ x∧jZ S (fun y=>at_ a≤at_ y) a x:=by
 induction h with
 |refl x=>exact ⟨hx,Int.le_refl _,.refl (Int.le_refl _)⟩
 |@up x a h1 h2 h3 ih=>
  obtain ⟨g1,g2,g3⟩:=hN.near x h1 h2
  obtain ⟨i1,i2,i3⟩:=ih g2
  refine ⟨i1,by omega,i3.trans ((hN.path x h1 h2).mono fun y hy=>by omega)⟩
theorem j5.antisymm (hV:tm S at_ V) (hN:j5 S at_ V N) {x a:Int} (hx:N x≠-1) (h:iN N x a) (e:at_ x≤at_ a):a=x:=by
 rcases h.cases' with h|⟨h1,h2,h3⟩
 ·exact h
 ·have g:=hN.near x h1 h2
  have:=(hN.anc g.2.1 h3).2.1
  omega
def ee (N at_:Int→Int):Nat→Int→Int→Int
 |0,a,_=>a
 |k+1,a,b=>if a=b then a else if at_ b<at_ a then ee N at_ k (N a) b else ee N at_ k a (N b)
theorem nM (hV:tm S at_ V) (hN:j5 S at_ V N):∀(k:Nat) (a b:Int),N a≠-1→N b≠-1→at_ a+at_ b<k→N (ee N at_ k a b)≠-1∧∀x,iN N (ee N at_ k a b) x↔iN N a x∧iN N b x
 |0,a,b,ha,hb,hk=>by
  have h1:=(hV.pos a).1 (hN.mem a ha)
  have h2:=(hV.pos b).1 (hN.mem b hb)
  exact absurd hk (by omega)
 |k+1,a,b,ha,hb,hk=>by
  have h1:=(hV.pos a).1 (hN.mem a ha)
  have h2:=(hV.pos b).1 (hN.mem b hb)
  unfold ee
  by_cases hab:a=b
  ·rw[if_pos hab];subst hab;exact ⟨ha,fun x=>⟨fun h=>⟨h,h⟩,fun h=>h.1⟩⟩
  ·rw[if_neg hab]
   by_cases hlt:at_ b<at_ a
   ·rw[if_pos hlt]
    have ha0:a≠0:=fun e=>by rw[e,hV.zero] at hlt;omega
    obtain ⟨g1,g2,g3⟩:=hN.near a ha0 ha
    obtain ⟨i1,i2⟩:=nM hV hN k (N a) b g2 hb (by omega)
    refine ⟨i1,fun x=>(i2 x).trans ⟨fun h=>⟨.up ha0 ha h.1,h.2⟩,fun h=>⟨?_,h.2⟩⟩⟩
    rcases h.1.cases' with rfl|⟨_,_,h3⟩
    ·have:=(hN.anc hb h.2).2.1;omega
    ·exact h3
   ·rw[if_neg hlt]
    have hlt2:at_ a<at_ b:=by
     have:at_ a≠at_ b:=fun e=>hab (hV.inj a b (hN.mem a ha) (hN.mem b hb) e)
     omega
    have hb0:b≠0:=fun e=>by rw[e,hV.zero] at hlt2;omega
    obtain ⟨g1,g2,g3⟩:=hN.near b hb0 hb
    obtain ⟨i1,i2⟩:=nM hV hN k a (N b) ha g2 (by omega)
    refine ⟨i1,fun x=>(i2 x).trans ⟨fun h=>⟨h.1,.up hb0 hb h.2⟩,fun h=>⟨h.1,?_⟩⟩⟩
    rcases h.2.cases' with rfl|⟨_,_,h3⟩
    ·have:=(hN.anc ha h.1).2.1;omega
    ·exact h3
theorem mr (hV:tm S at_ V) (hN:j5 S at_ V N):∀(k j:Nat) (a b:Int),N a≠-1→N b≠-1→at_ a+at_ b<k→k≤j→ee N at_ j a b=ee N at_ k a b
 |0,j,a,b,ha,hb,hk,_=>by
  have h1:=(hV.pos a).1 (hN.mem a ha)
  have h2:=(hV.pos b).1 (hN.mem b hb)
  exact absurd hk (by omega)
 |k+1,0,_,_,_,_,_,hj=>by omega
 |k+1,j+1,a,b,ha,hb,hk,hj=>by
  have h1:=(hV.pos a).1 (hN.mem a ha)
  have h2:=(hV.pos b).1 (hN.mem b hb)
  unfold ee
  by_cases hab:a=b
  ·rw[if_pos hab,if_pos hab]
  ·rw[if_neg hab,if_neg hab]
   by_cases hlt:at_ b<at_ a
   ·rw[if_pos hlt,if_pos hlt]
    have ha0:a≠0:=fun e=>by rw[e,hV.zero] at hlt;omega
    obtain ⟨g1,g2,g3⟩:=hN.near a ha0 ha
    exact mr hV hN k j (N a) b g2 hb (by omega) (by omega)
   ·rw[if_neg hlt,if_neg hlt]
    have hlt2:at_ a<at_ b:=by
     have:at_ a≠at_ b:=fun e=>hab (hV.inj a b (hN.mem a ha) (hN.mem b hb) e)
     omega
    have hb0:b≠0:=fun e=>by rw[e,hV.zero] at hlt2;omega
    obtain ⟨g1,g2,g3⟩:=hN.near b hb0 hb
    exact mr hV hN k j a (N b) ha g2 (by omega) (by omega)
def gy (N at_:Int→Int) (K:Nat):List Int→Int→Int
 |[],m=>m
 |p::ps,m=>gy N at_ K ps (if at_ p=-1∨N p=-1 then m else if m=-1 then p else ee N at_ K m p)
theorem rj (hV:tm S at_ V) (hN:j5 S at_ V N) {K:Nat} (hK:∀a b,a∈V→b∈V→at_ a+at_ b<K):∀(ps:List Int) (m:Int),N m≠-1 →
  N (gy N at_ K ps m)≠-1∧∀x,iN N (gy N at_ K ps m) x↔iN N m x∧∀p∈ps,N p≠-1→iN N p x
 |[],m,hm=>⟨hm,fun x=>by simp[gy]⟩
 |p::ps,m,hm=>by
  unfold gy
  by_cases hp:at_ p=-1∨N p=-1
  ·rw[if_pos hp]
   have hp1:N p=-1:=by
    rcases hp with hp|hp
    ·exact Classical.byContradiction fun h=>by have:=(hV.pos p).1 (hN.mem p h);omega
    ·exact hp
   obtain ⟨i1,i2⟩:=rj hV hN hK ps m hm
   refine ⟨i1,fun x=>(i2 x).trans ⟨fun h=>⟨h.1,fun q hq hqn=>?_⟩,fun h=>⟨h.1,fun q hq=>h.2 q (.tail _ hq)⟩⟩⟩
   rcases List.mem_cons.1 hq with rfl|hq
   ·exact absurd hp1 hqn
   ·exact h.2 q hq hqn
  ·rw[if_neg hp]
   have hp1:N p≠-1:=fun e=>hp (.inr e)
   have hm0:m≠-1:=fun e=>by
    have h1:=hV.nn m (hN.mem m hm)
    omega
   rw[if_neg hm0]
   obtain ⟨j1,j2⟩:=nM hV hN K m p hm hp1 (hK _ _ (hN.mem _ hm) (hN.mem _ hp1))
   obtain ⟨i1,i2⟩:=rj hV hN hK ps _ j1
   refine ⟨i1,fun x=>(i2 x).trans ⟨fun h=>⟨((j2 x).1 h.1).1,fun q hq hqn=>?_⟩,fun h=>⟨(j2 x).2 ⟨h.1,h.2 p (.head _) hp1⟩,fun q hq=>h.2 q (.tail _ hq)⟩⟩⟩
   rcases List.mem_cons.1 hq with rfl|hq
   ·exact ((j2 x).1 h.1).2
   ·exact h.2 q hq hqn
theorem um (hV:tm S at_ V) (hN:j5 S at_ V N) {K:Nat} (hK:∀a b,a∈V→b∈V→at_ a+at_ b<K):∀(ps:List Int),(∃p∈ps,N p≠-1) →
  N (gy N at_ K ps (-1))≠-1∧∀x,iN N (gy N at_ K ps (-1)) x↔∀p∈ps,N p≠-1→iN N p x
 |[],h=>by obtain ⟨_,h,_⟩:=h;cases h
 |p::ps,h=>by
  unfold gy
  by_cases hp:at_ p=-1∨N p=-1
  ·rw[if_pos hp]
   have hp1:N p=-1:=by
    rcases hp with hp|hp
    ·exact Classical.byContradiction fun h=>by have:=(hV.pos p).1 (hN.mem p h);omega
    ·exact hp
   obtain ⟨i1,i2⟩:=um hV hN hK ps (by
    obtain ⟨q,hq,hqn⟩:=h
    rcases List.mem_cons.1 hq with rfl|hq
    ·exact absurd hp1 hqn
    ·exact ⟨q,hq,hqn⟩)
   refine ⟨i1,fun x=>(i2 x).trans ⟨fun h q hq hqn=>?_,fun h q hq=>h q (.tail _ hq)⟩⟩
   rcases List.mem_cons.1 hq with rfl|hq
   ·exact absurd hp1 hqn
   ·exact h q hq hqn
  ·rw[if_neg hp,if_pos rfl]
   have hp1:N p≠-1:=fun e=>hp (.inr e)
   obtain ⟨i1,i2⟩:=rj hV hN hK ps p hp1
   refine ⟨i1,fun x=>(i2 x).trans ⟨fun h q hq hqn=>?_,fun h=>⟨h p (.head _) hp1,fun q hq=>h q (.tail _ hq)⟩⟩⟩
   rcases List.mem_cons.1 hq with rfl|hq
   ·exact h.1
   ·exact h.2 q hq hqn
def j6 (N:Int→Int) (b m:Int):Int→Int:=fun x=>if x=b then m else N x
theorem iO (N:Int→Int) (b m:Int):j6 N b m b=m:=by simp[j6]
theorem fc {N:Int→Int} {b m x:Int} (h:x≠b):j6 N b m x=N x:=by simp[j6,h]
structure lh (S:Int→List Int) (at_:Int→Int) (V:List Int) (N:Int→Int) (b m:Int):Prop where
 mem:b∈V
 ne:b≠0
 has:N m≠-1
 anc:∀x,iN N m x↔∀p,b∈S p→N p≠-1→iN N p x
 fwd:∃p,b∈S p∧N p≠-1∧at_ p<at_ b
variable {b m:Int}
theorem lh.lt (hN:j5 S at_ V N) (h:lh S at_ V N b m):at_ m<at_ b:=by
 obtain ⟨p,h1,h2,h3⟩:=h.fwd
 have:=(hN.anc h2 ((h.anc m).1 (.refl _) p h1 h2)).2.1
 omega
theorem lh.mne (hN:j5 S at_ V N) (h:lh S at_ V N b m):m≠b:=fun e=>by have:=h.lt hN;rw[e] at this;omega
theorem BT (hN:j5 S at_ V N) {x a:Int} (hx:N x≠-1) (hlt:at_ x<at_ b):iN (j6 N b m) x a↔iN N x a:=by
 constructor
 ·intro h
  induction h with
  |refl=>exact .refl _
  |@up x a h1 h2 h3 ih=>
   have hne:x≠b:=fun e=>by rw[e] at hlt;omega
   rw[fc hne] at h2 h3 ih
   have:=hN.near x h1 hx
   exact .up h1 hx (ih this.2.1 (by omega))
 ·intro h
  induction h with
  |refl=>exact .refl _
  |@up x a h1 h2 h3 ih=>
   have hne:x≠b:=fun e=>by rw[e] at hlt;omega
   have:=hN.near x h1 hx
   exact .up h1 (by rw[fc hne];exact hx) (by rw[fc hne];exact ih this.2.1 (by omega))
theorem JK {x a:Int} (h:iN N x a):iN (j6 N b m) x a∨(iN (j6 N b m) x b∧iN N x b∧iN N b a):=by
 induction h with
 |refl=>exact .inl (.refl _)
 |@up x a h1 h2 h3 ih=>
  by_cases hxb:x=b
  ·subst hxb;exact .inr ⟨.refl _,.refl _,.up h1 h2 h3⟩
  ·rcases ih with h|⟨h,h',h''⟩
   ·exact .inl (.up h1 (by rw[fc hxb];exact h2) (by rw[fc hxb];exact h))
   ·exact .inr ⟨.up h1 (by rw[fc hxb];exact h2) (by rw[fc hxb];exact h),.up h1 h2 h',h''⟩
theorem EW {x a:Int} (h:iN (j6 N b m) x a):iN N x a∨(iN N x b∧iN (j6 N b m) b a):=by
 induction h with
 |refl=>exact .inl (.refl _)
 |@up x a h1 h2 h3 ih=>
  by_cases hxb:x=b
  ·subst hxb;exact .inr ⟨.refl _,.up h1 h2 h3⟩
  ·rw[fc hxb] at h2 ih
   rcases ih with h|⟨h,h'⟩
   ·exact .inl (.up h1 h2 h)
   ·exact .inr ⟨.up h1 h2 h,h'⟩
theorem lh.up (hV:tm S at_ V) (hN:j5 S at_ V N) (h:lh S at_ V N b m) {a:Int}:iN (j6 N b m) b a↔a=b∨iN N m a:=by
 have hl:=h.lt hN
 have hm1:m≠-1:=fun e=>by have:=hV.nn m (hN.mem m h.has);omega
 constructor
 ·intro ha
  rcases ha.cases' with e|⟨_,_,h3⟩
  ·exact .inl e
  ·rw[iO] at h3;exact .inr ((BT hN h.has hl).1 h3)
 ·rintro (e|h3)
  ·subst e;exact .refl _
  ·exact .up h.ne (by rw[iO];exact hm1) (by rw[iO];exact (BT hN h.has hl).2 h3)
theorem j5.set (hV:tm S at_ V) (hN:j5 S at_ V N) (h:lh S at_ V N b m):j5 S at_ V (j6 N b m):=by
 have hl:=h.lt hN
 have hmb:=h.mne hN
 have hm1:m≠-1:=fun e=>by have:=hV.nn m (hN.mem m h.has);omega
 have hset:∀x,N x≠-1→j6 N b m x≠-1:=fun x hx=>by
  unfold j6;split
  ·exact hm1
  ·exact hx
 refine ⟨by rw[fc h.ne.symm];exact hN.zero,fun x hx=>?_,fun x h0 hx=>?_,fun x h0 hx=>?_,fun x d hx hd=>?_⟩
 ·by_cases e:x=b
  ·subst e;exact h.mem
  ·rw[fc e] at hx;exact hN.mem x hx
 ·by_cases e:x=b
  ·subst e;rw[iO];exact ⟨hN.mem m h.has,hset m h.has,hl⟩
  ·rw[fc e] at hx ⊢
   have:=hN.near x h0 hx
   exact ⟨this.1,hset _ this.2.1,this.2.2⟩
 ·by_cases e:x=b
  ·subst e;rw[iO]
   obtain ⟨p,h1,h2,h3⟩:=h.fwd
   have:=(hN.anc h2 ((h.anc m).1 (.refl _) p h1 h2)).2.2
   exact .step this h1 (by omega)
  ·rw[fc e] at hx ⊢;exact hN.path x h0 hx
 ·have hb:∀d,gC S d b→iN (j6 N b m) b d:=fun d hd=>(h.up hV hN).2 (by
   by_cases e:d=b
   ·exact .inl e
   ·exact .inr ((h.anc d).2 fun p hp hpn=>hN.dom p d hpn (hd.pred ((hV.mem p).1 (hN.mem p hpn)) hp e)))
  by_cases e:x=b
  ·subst e;exact hb d hd
  ·rw[fc e] at hx
   rcases JK (b:=b) (m:=m) (hN.dom x d hx hd) with h1|⟨h1,h2,h3⟩
   ·exact h1
   ·refine h1.trans (hb d ?_)
    have hx2:=hN.anc hx h2
    by_cases hdb:d=b
    ·subst hdb;exact .refl ((hV.mem d).1 h.mem)
    ·refine ⟨(hV.mem b).1 h.mem,fun hw=>?_⟩
     have hlt:at_ d<at_ b:=by
      rcases Int.lt_or_le (at_ d) (at_ b) with g|g
      ·exact g
      ·exact absurd (hN.antisymm hV hx2.1 h3 g) hdb
     exact hd.2 (hw.trans (hx2.2.2.mono fun y hy e=>by subst e;omega))
end
end
section
open Go.Proofs.Tryz
section
variable {S:Int→List Int} {at_:Int→Int} {V:List Int} {N:Int→Int} {b m:Int}
theorem ii.le {p:Int→Prop} {r x:Int} {k j:Nat} (h:ii S at_ p r k x) (hj:k≤j):ii S at_ p r j x:=by
 induction h generalizing j with
 |refl h=>exact .refl h
 |fwd _ h1 h2 h3 ih=>exact .fwd (ih hj) h1 h2 h3
 |back _ h1 h2 ih=>
  obtain ⟨i,rfl⟩:∃i,j=i+1:=⟨j - 1,by omega⟩
  exact .back (ih (by omega)) h1 h2
theorem ii.by_ {p:Int→Prop} {r x:Int} {k:Nat} (b:Int) (h:ii S at_ p r k x):ii S at_ (fun y=>p y∧y≠b) r k x∨ii S at_ p r k b:=by
 induction h with
 |@refl k h=>
  by_cases e:r=b
  ·subst e;exact .inr (.refl h)
  ·exact .inl (.refl ⟨h,e⟩)
 |@fwd k c d h0 h1 h2 h3 ih=>
  rcases ih with ih|ih
  ·by_cases e:d=b
   ·subst e;exact .inr (.fwd h0 h1 h2 h3)
   ·exact .inl (.fwd ih h1 h2 ⟨h3,e⟩)
  ·exact .inr ih
 |@back k c d h0 h1 h2 ih=>
  rcases ih with ih|ih
  ·by_cases e:d=b
   ·subst e;exact .inr (.back h0 h1 h2)
   ·exact .inl (.back ih h1 ⟨h2,e⟩)
  ·exact .inr (ih.le (by omega))
theorem ii.mono {p q:Int→Prop} {r x:Int} {k:Nat} (hpq:∀y,p y→q y) (h:ii S at_ p r k x):ii S at_ q r k x:=by
 induction h with
 |refl h=>exact .refl (hpq _ h)
 |fwd _ h1 h2 h3 ih=>exact .fwd ih h1 h2 (hpq _ h3)
 |back _ h1 h2 ih=>exact .back ih h1 (hpq _ h2)
def PB (S:Int→List Int) (at_:Int→Int) (N:Int→Int) (j:Nat) (x:Int):Prop:=∀i,i<j→∀a,iN N x a→¬ii S at_ (fun y=>y≠a) 0 i x
theorem PB.zero (x:Int):PB S at_ N 0 x:=fun i hi=>by omega
theorem PB.root (j:Nat):PB S at_ N j 0:=fun i _ a ha hw=>by
 rcases ha.cases' with rfl|⟨h,_,_⟩
 ·exact hw.end_ rfl
 ·exact h rfl
structure nN (S:Int→List Int) (at_:Int→Int) (V:List Int) (N:Int→Int) (j:Nat) (t:Int):Prop where
 inv:j5 S at_ V N
 has:∀x,x∈V→(at_ x<t∨1≤j)→N x≠-1
 done:∀x,x∈V→at_ x<t→PB S at_ N (j+1) x
 all:∀x,x∈V→PB S at_ N j x
theorem EX (hV:tm S at_ V) {p:Int→Prop} {x:Int} {k:Nat} (h:ii S at_ p 0 k x):x∈V:=(hV.mem x).2 (h.way.mono fun _ _=>trivial)
theorem nN.self (hV:tm S at_ V) {j:Nat} (h:nN S at_ V N j (at_ b)) (hM:lh S at_ V N b m):PB S at_ (j6 N b m) (j+1) b:=fun i hi a ha hw=>by
 rcases (hM.up hV h.inv).1 ha with e|ha
 ·exact hw.end_ e.symm
 ·cases hw with
  |refl _=>exact hM.ne rfl
  |@fwd _ p _ h1 h2 h3 h4=>
   have hp:=EX hV h1
   have hpn:=h.has p hp (.inl h3)
   exact h.done p hp h3 i hi a ((hM.anc a).1 ha p h2 hpn) h1
  |@back k p _ h1 h2 h3=>
   have hp:=EX hV h1
   have hpn:=h.has p hp (.inr (by omega))
   exact h.all p hp k (by omega) a ((hM.anc a).1 ha p h2 hpn) h1
theorem nN.other (hV:tm S at_ V) {j:Nat} (h:nN S at_ V N j (at_ b)) (hM:lh S at_ V N b m) {x:Int} {k:Nat} (hk:k≤j+1) (hx:PB S at_ N k x):PB S at_ (j6 N b m) k x:=fun i hi a ha hw=>by
 rcases EW ha with h1|⟨h1,h2⟩
 ·exact hx i hi a h1 hw
 ·rcases hw.by_ b with h3|h3
  ·exact hx i hi b h1 (h3.mono fun y hy=>hy.2)
  ·exact h.self hV hM i (by omega) a h2 h3
theorem nN.step (hV:tm S at_ V) {j:Nat} (h:nN S at_ V N j (at_ b)) (hM:lh S at_ V N b m):nN S at_ V (j6 N b m) j (at_ b+1):=by
 have hm1:m≠-1:=fun e=>by have:=hV.nn m (h.inv.mem m hM.has);omega
 refine ⟨h.inv.set hV hM,fun x hx hc=>?_,fun x hx hc=>?_,fun x hx=>h.other hV hM (by omega) (h.all x hx)⟩
 ·by_cases e:x=b
  ·subst e;rw[iO];exact hm1
  ·rw[fc e]
   refine h.has x hx ?_
   rcases hc with hc|hc
   ·left
    have:at_ x≠at_ b:=fun e2=>e (hV.inj x b hx hM.mem e2)
    omega
   ·exact .inr hc
 ·by_cases e:x=b
  ·subst e;exact h.self hV hM
  ·have:at_ x≠at_ b:=fun e2=>e (hV.inj x b hx hM.mem e2)
   exact h.other hV hM (Nat.le_refl _) (h.done x hx (by omega))
theorem nN.next (hV:tm S at_ V) {j:Nat} {t:Int} (h:nN S at_ V N j t) (ht:∀x,x∈V→at_ x<t):nN S at_ V N (j+1) 1:=
 ⟨h.inv,fun x hx _=>h.has x hx (.inl (ht x hx)),fun x hx h1=>by
  have:x=0:=hV.inj x 0 hx hV.zmem (by rw[hV.zero];have:=(hV.pos x).1 hx;omega)
  subst this;exact PB.root _,fun x hx=>h.done x hx (ht x hx)⟩
theorem nN.first (hV:tm S at_ V):nN S at_ V (fun x=>if x=0 then 0 else -1) 0 1:=by
 have hN:j5 S at_ V (fun x=>if x=0 then 0 else -1):=by
  refine ⟨by simp,fun x hx=>?_,fun x h0 hx=>?_,fun x h0 hx=>?_,fun x d hx hd=>?_⟩
  ·by_cases e:x=0
   ·rw[e];exact hV.zmem
   ·simp[e] at hx
  ·simp[h0] at hx
  ·simp[h0] at hx
  ·by_cases e:x=0
   ·subst e
    have:d=0:=Classical.byContradiction fun hd0=>hd.2 (.refl (fun e=>hd0 e.symm))
    subst this;exact .refl _
   ·simp[e] at hx
 refine ⟨hN,fun x hx hc=>?_,fun x hx h1=>?_,fun x hx=>PB.zero x⟩
 ·rcases hc with hc|hc
  ·have:x=0:=hV.inj x 0 hx hV.zmem (by rw[hV.zero];have:=(hV.pos x).1 hx;omega)
   simp[this]
  ·omega
 ·have:x=0:=hV.inj x 0 hx hV.zmem (by rw[hV.zero];have:=(hV.pos x).1 hx;omega)
  subst this;exact PB.root _
structure lj (S:Int→List Int) (at_:Int→Int) (V:List Int) (N:Int→Int):Prop where
 inv:j5 S at_ V N
 has:∀x,x∈V→N x≠-1
 anc:∀x a,x∈V→(iN N x a↔gC S a x)
theorem nN.exact (hV:tm S at_ V) {j:Nat} {t:Int} (h:nN S at_ V N j t) (hj:V.length≤j):lj S at_ V N:=by
 have h1:1≤j:=by
  have:0<V.length:=List.length_pos_of_mem hV.zmem
  omega
 refine ⟨h.inv,fun x hx=>h.has x hx (.inr h1),fun x a hx=>⟨fun ha=>?_,fun hd=>h.inv.dom x a (h.has x hx (.inr h1)) hd⟩⟩
 refine ⟨(hV.mem x).1 hx,fun hw=>?_⟩
 obtain ⟨k,hk,hb⟩:=jZ.short at_ V.length V (fun y=>y≠a∧jZ S (fun y=>y≠a) 0 y) 0 x rfl (fun y hy=>(hV.mem y).2 (hy.2.mono fun _ _=>trivial)) hw.self
 exact h.all x hx k (by omega) a ha (hb.mono fun y hy=>hy.1)
theorem lj.still (hV:tm S at_ V) (h:lj S at_ V N) (hM:lh S at_ V N b m):m=N b:=by
 have hb:=h.has b hM.mem
 obtain ⟨g1,g2,g3⟩:=h.inv.near b hM.ne hb
 have hl:=hM.lt h.inv
 have h1:iN N m (N b):=(hM.anc _).2 fun p hp hpn=>by
  have hd:gC S (N b) b:=(h.anc b (N b) hM.mem).1 (.up hM.ne hb (.refl _))
  have hp2:=h.inv.mem p hpn
  exact (h.anc p (N b) hp2).2 (hd.pred ((hV.mem p).1 hp2) hp (fun e=>by rw[e] at g3;omega))
 have h2:iN N b m:=(h.anc b m hM.mem).2 (gC.of_preds ((hV.mem b).1 hM.mem) hM.ne fun p hp he=>by
  have hp2:=(hV.mem p).2 hp
  exact (h.anc p m hp2).1 ((hM.anc m).1 (.refl _) p he (h.has p hp2)))
 rcases h2.cases' with e|⟨_,_,h3⟩
 ·rw[e] at hl;omega
 ·have l1:=(h.inv.anc hM.has h1).2.1
  exact h.inv.antisymm hV g2 h3 (by omega)
end
end
section
open Go.Proofs.Tryz
def gi (l:List Int) (x:Int):Int:=if 0≤x then (l[x.toNat]?).getD (-1) else -1
theorem EY (l:List Int) (k:Nat):gi l (k:Int)=(l[k]?).getD (-1):=by unfold gi;rw[if_pos (by omega)];rfl
theorem gD {l:List Int} {x:Int} (h0:0≤x) (h:x.toNat<l.length):l[x.toNat]?=some (gi l x):=by
 unfold gi;rw[if_pos h0,qx h];rfl
theorem vk {l:List Int} {b:Int} (h0:0≤b) (h:b.toNat<l.length) (m:Int):gi (l.set b.toNat m)=j6 (gi l) b m:=by
 funext x
 unfold gi j6
 by_cases hx:0≤x
 ·rw[if_pos hx]
  by_cases e:x=b
  ·subst e;rw[if_pos rfl,List.getElem?_set_self h];rfl
  ·rw[if_neg e,List.getElem?_set_ne (by omega)];dsimp only;rw[if_pos hx]
 ·rw[if_neg hx,if_neg (by omega)];dsimp only;rw[if_neg hx]
theorem Ay {l:List Int} {x:Int} (h:x<0∨(l.length:Int)≤x):gi l x=-1:=by
 unfold gi
 split
 ·rw[List.getElem?_eq_none (by omega)];rfl
 ·rfl
theorem JL {l m:List Int} (hl:l.length=m.length) (h:∀x,gi l x=gi m x):l=m:=by
 refine List.ext_getElem hl fun k h1 h2=>?_
 have:=h (k:Int)
 rw[EY,EY,qx h1,qx h2] at this
 simpa using this
theorem xb {l:List Int} {b:Int} (h0:0≤b):l.set b.toNat (gi l b)=l:=by
 by_cases h:b.toNat<l.length
 ·have:=gD h0 h
  refine List.ext_getElem? fun k=>?_
  by_cases e:k=b.toNat
  ·subst e;rw[List.getElem?_set_self h,this]
  ·rw[List.getElem?_set_ne (fun e2=>e e2.symm)]
 ·exact List.set_eq_of_length_le (by omega)
def eh (n:Nat) (V:List Int):List Int:=(V.zipIdx).foldl (fun l p=>l.set p.1.toNat (p.2:Int)) (List.replicate n (-1))
def kl (at_:List Int) (K:Nat) (preds:Int→List Int) (l:List Int) (b:Int):List Int:=l.set b.toNat (gy (gi l) (gi at_) K (preds b) (-1))
def uo (at_:List Int) (K:Nat) (preds:Int→List Int) (V:List Int) (l:List Int):List Int:=V.tail.foldl (kl at_ K preds) l
def passN (at_:List Int) (K:Nat) (preds:Int→List Int) (V:List Int) (l:List Int):Nat→List Int
 |0=>l
 |k+1=>uo at_ K preds V (passN at_ K preds V l k)
def fO (n:Nat):List Int:=(List.replicate n (-1)).set 0 0
structure ox (S:Int→List Int) (at_:List Int) (V:List Int) (preds:Int→List Int) (n:Nat):Prop where
 ord:tm S (gi at_) V
 lt:∀b∈V,b<n
 row:∀(k:Nat),k<V.length→gi at_ (V[k]?.getD 0)=k
 preds:∀b∈V,∀p,p∈preds b↔b∈S p
section
variable {S:Int→List Int} {at_ V:List Int} {preds:Int→List Int} {n:Nat}
theorem ox.pos (h:ox S at_ V preds n):0<V.length:=List.length_pos_of_mem h.ord.zmem
theorem ox.at_lt (h:ox S at_ V preds n) {b:Int} (hb:b∈V):∃k,k<V.length∧V[k]?=some b∧gi at_ b=k:=by
 obtain ⟨k,hk,e⟩:=List.mem_iff_getElem.1 hb
 have:=h.row k hk
 rw[qx hk] at this
 exact ⟨k,hk,by rw[qx hk,e],by rw[←e];exact this⟩
theorem ox.K (h:ox S at_ V preds n):∀a b,a∈V→b∈V→gi at_ a+gi at_ b<((2*V.length:Nat):Int):=fun a b ha hb=>by
 obtain ⟨j,hj,_,e1⟩:=h.at_lt ha
 obtain ⟨k,hk,_,e2⟩:=h.at_lt hb
 rw[e1,e2];omega
theorem ox.meets (h:ox S at_ V preds n) {l:List Int} {j:Nat} {b:Int} (hR:nN S (gi at_) V (gi l) j (gi at_ b)) (hb:b∈V) (h0:b≠0):lh S (gi at_) V (gi l) b (gy (gi l) (gi at_) (2*V.length) (preds b) (-1)):=by
 obtain ⟨p,h1,h2,h3⟩:=h.ord.fwd b hb h0
 have hp:=hR.has p h1 (.inl h3)
 obtain ⟨g1,g2⟩:=um h.ord hR.inv h.K (preds b) ⟨p,(h.preds b hb p).2 h2,hp⟩
 exact ⟨hb,h0,g1,fun x=>(g2 x).trans ⟨fun hh q hq=>hh q ((h.preds b hb q).2 hq),fun hh q hq=>hh q ((h.preds b hb q).1 hq)⟩,p,h2,hp,h3⟩
theorem ox.step (h:ox S at_ V preds n) {l:List Int} {j k:Nat} {b:Int} (hl:l.length=n) (hk:0<k) (hb:V[k]?=some b) (hR:nN S (gi at_) V (gi l) j k) :
  nN S (gi at_) V (gi (kl at_ (2*V.length) preds l b)) j ((k+1:Nat):Int)∧(V.length≤j→kl at_ (2*V.length) preds l b=l)∧gi at_ b=k∧b∈V∧b≠0:=by
 obtain ⟨hk2,e⟩:=List.getElem?_eq_some_iff.1 hb
 have hbm:b∈V:=e▸w3 hk2
 have hat:gi at_ b=k:=by have:=h.row k hk2;rw[hb] at this;exact this
 have hb0:b≠0:=fun e2=>by rw[e2,h.ord.zero] at hat;omega
 have hnn:=h.ord.nn b hbm
 have hblt:=h.lt b hbm
 rw[←hat] at hR
 have hM:=h.meets hR hbm hb0
 have hset:=vk (l:=l) hnn (by omega) (gy (gi l) (gi at_) (2*V.length) (preds b) (-1))
 refine ⟨?_,fun hj=>?_,hat,hbm,hb0⟩
 ·have:=hR.step h.ord hM
  unfold kl
  rw[hset]
  rw[hat] at this
  exact this
 ·have:=(hR.exact h.ord hj).still h.ord hM
  unfold kl
  rw[this,xb hnn]
theorem uq (K:Nat) (l:List Int) (b:Int):(kl at_ K preds l b).length=l.length:=by unfold kl;rw[List.length_set]
theorem rm (K:Nat):∀(bs:List Int) (l:List Int),(bs.foldl (kl at_ K preds) l).length=l.length
 |[],_=>rfl
 |b::bs,l=>by rw[List.foldl_cons,rm K bs,uq]
theorem ox.fold (h:ox S at_ V preds n) {j:Nat}:∀(bs:List Int) (k:Nat) (l:List Int),l.length=n→0<k→V.drop k=bs→nN S (gi at_) V (gi l) j k →
  nN S (gi at_) V (gi (bs.foldl (kl at_ (2*V.length) preds) l)) j ((max k V.length:Nat):Int)
 |[],k,l,hl,hk,hd,hR=>by
  have:V.length≤k:=by have:=congrArg List.length hd;simp at this;omega
  rw[Nat.max_eq_left this];exact hR
 |b::bs,k,l,hl,hk,hd,hR=>by
  have hk2:k<V.length:=by have:=congrArg List.length hd;simp at this;omega
  have hb:V[k]?=some b:=by have:=congrArg (fun z:List Int=>z[0]?) hd;simpa using this
  have:=ox.fold h bs (k+1) _ (by rw[uq,hl]) (by omega) (by rw[←List.drop_drop,hd];rfl) (h.step hl hk hb hR).1
  rw[List.foldl_cons]
  rwa [show max (k+1) V.length=max k V.length by omega] at this
theorem ox.pass (h:ox S at_ V preds n) {j:Nat} {l:List Int} (hl:l.length=n) (hR:nN S (gi at_) V (gi l) j 1):nN S (gi at_) V (gi (uo at_ (2*V.length) preds V l)) (j+1) 1:=by
 have h1:=h.fold (j:=j) V.tail 1 l hl (by omega) (by rw[List.drop_one]) hR
 refine h1.next h.ord fun x hx=>?_
 obtain ⟨k,hk,_,e⟩:=h.at_lt hx
 rw[e]
 have:=h.pos
 omega
theorem C2 (K:Nat) (l:List Int):(uo at_ K preds V l).length=l.length:=rm K _ _
theorem mu (K:Nat) (l:List Int):∀k,(passN at_ K preds V l k).length=l.length
 |0=>rfl
 |k+1=>by rw[passN,C2,mu K l k]
theorem ox.fixed (h:ox S at_ V preds n) {j:Nat} {l:List Int} (hl:l.length=n) (hR:nN S (gi at_) V (gi l) j 1) (hf:uo at_ (2*V.length) preds V l=l):lj S (gi at_) V (gi l):=by
 have:∀i,nN S (gi at_) V (gi l) (j+i) 1:=fun i=>by
  induction i with
  |zero=>exact hR
  |succ i ih=>have:=h.pass hl ih;rw[hf] at this;exact this
 exact (this V.length).exact h.ord (by omega)
theorem nO (hn:0<n):gi (fO n)=fun x=>if x=0 then 0 else -1:=by
 funext x
 unfold fO
 have:=vk (l:=List.replicate n (-1)) (b:=0) (by omega) (by simp;exact hn) 0
 rw[show (0:Int).toNat=0 from rfl] at this
 rw[this]
 unfold j6
 split
 ·rfl
 ·unfold gi
  split
  ·rw[List.getElem?_replicate];split<;>rfl
  ·rfl
theorem ox.npos (h:ox S at_ V preds n):0<n:=by have:=h.lt 0 h.ord.zmem;omega
theorem ox.begin (h:ox S at_ V preds n):nN S (gi at_) V (gi (fO n)) 0 1:=by
 rw[nO h.npos];exact nN.first h.ord
theorem ox.passN (h:ox S at_ V preds n):∀k,nN S (gi at_) V (gi (passN at_ (2*V.length) preds V (fO n) k)) k 1
 |0=>h.begin
 |k+1=>h.pass (by rw[mu];simp[fO]) (h.passN k)
def ur (at_:List Int) (V:List Int) (preds:Int→List Int) (n:Nat):List Int:=Go.Proofs.YtbbonnfjealmpaaGreatDoor.passN at_ (2*V.length) preds V (fO n) V.length
theorem ox.near (h:ox S at_ V preds n):lj S (gi at_) V (gi (ur at_ V preds n)):=(h.passN V.length).exact h.ord (Nat.le_refl _)
theorem lj.unique {at_:Int→Int} {N M:Int→Int} (hV:tm S at_ V) (h1:lj S at_ V N) (h2:lj S at_ V M):N=M:=by
 funext x
 by_cases hx:x∈V
 ·by_cases h0:x=0
  ·rw[h0,h1.inv.zero,h2.inv.zero]
  ·have key:∀{N M:Int→Int},lj S at_ V N→lj S at_ V M→at_ (N x)≤at_ (M x):=fun {N M} h1 h2=>by
    obtain ⟨g1,g2,g3⟩:=h1.inv.near x h0 (h1.has x hx)
    have hd:=(h1.anc x (N x) hx).1 (.up h0 (h1.has x hx) (.refl _))
    rcases ((h2.anc x (N x) hx).2 hd).cases' with e|⟨_,_,h3⟩
    ·rw[e] at g3;omega
    ·obtain ⟨k1,k2,k3⟩:=h2.inv.near x h0 (h2.has x hx)
     exact (h2.inv.anc k2 h3).2.1
   have e1:=key h1 h2
   have e2:=key h2 h1
   exact hV.inj _ _ (h1.inv.near x h0 (h1.has x hx)).1 (h2.inv.near x h0 (h2.has x hx)).1 (by omega)
 ·have e1:N x=-1:=Classical.byContradiction fun h=>hx (h1.inv.mem x h)
  have e2:M x=-1:=Classical.byContradiction fun h=>hx (h2.inv.mem x h)
  rw[e1,e2]
theorem ox.near_eq (h:ox S at_ V preds n) {l:List Int} (hl:l.length=n) (hE:lj S (gi at_) V (gi l)):l=ur at_ V preds n:=
 JL (by rw[hl];unfold ur;rw[mu];simp[fO]) fun x=>congrFun (hE.unique h.ord h.near) x
end
end
section
open Go.Proofs.Tryz
abbrev HP:=List Bool × List Int × List (Int × Nat)
def gb (l:List Bool) (x:Int):Bool:=(l[x.toNat]?).getD false
def ge (l:List Int) (k:Nat):Int:=(l[k]?).getD 0
def ut (E:Int→List Int):HP→HP
 |(seen,out,[])=>(seen,out,[])
 |(seen,out,(b,k)::r)=>if k=(E b).length then (seen,out++[b],r) else
   if gb seen (ge (E b) k) then (seen,out,(b,k+1)::r) else (seen.set (ge (E b) k).toNat true,out,(ge (E b) k,0)::(b,k+1)::r)
theorem m2 (E:Int→List Int) (seen:List Bool) (out:List Int) (b:Int) (k:Nat) (r:List (Int × Nat)):ut E (seen,out,(b,k)::r)=if k=(E b).length then (seen,out++[b],r) else
   if gb seen (ge (E b) k) then (seen,out,(b,k+1)::r) else (seen.set (ge (E b) k).toNat true,out,(ge (E b) k,0)::(b,k+1)::r):=rfl
def ro (n:Nat):HP:=((List.replicate n false).set 0 true,[],[(0,0)])
def fw (E:Int→List Int) (n:Nat):Nat→HP
 |0=>ro n
 |k+1=>ut E (fw E n k)
def aH (E:Int→List Int) (n:Nat):List Int:=(fw E n (4*n)).2.1.reverse
structure EOk (E:Int→List Int) (n:Nat):Prop where
 npos:0<n
 rng:∀b:Int,0≤b→b<n→∀c∈E b,0≤c∧c<n
 len:∀b,(E b).length≤2
def EZ (E:Int→List Int):List Int→List Int→Prop
 |[],_=>True
 |v::r,s=>(v=0∨∃p,v∈E p∧(p∈r∨p∈s))∧EZ E r s
structure tC (E:Int→List Int) (n:Nat) (x:HP):Prop where
 len:x.1.length=n
 rng:∀v,v∈x.2.1++x.2.2.map Prod.fst→0≤v∧v<n
 seen:∀v,0≤v→(gb x.1 v=true↔v∈x.2.1++x.2.2.map Prod.fst)
 nodup:(x.2.1++x.2.2.map Prod.fst).Nodup
 rch:∀v,v∈x.2.1++x.2.2.map Prod.fst→nD E v
 done:∀b∈x.2.1,∀c∈E b,c∈x.2.1++x.2.2.map Prod.fst
 part:∀q∈x.2.2,q.2≤(E q.1).length∧∀i,i<q.2→ge (E q.1) i∈x.2.1++x.2.2.map Prod.fst
 led:EZ E (x.2.1++x.2.2.map Prod.fst) []
 last:(x.2.1++x.2.2.map Prod.fst).getLast?=some 0
theorem BU {E:Int→List Int}:∀{l r s:List Int},EZ E (l++r) s↔EZ E l (r++s)∧EZ E r s
 |[],r,s=>by simp[EZ]
 |v::l,r,s=>by
  rw[List.cons_append,EZ,EZ,BU (l:=l)]
  constructor
  ·rintro ⟨h,h1,h2⟩
   refine ⟨⟨?_,h1⟩,h2⟩
   rcases h with h|⟨p,h,h3⟩
   ·exact .inl h
   ·exact .inr ⟨p,h,by simp only[List.mem_append] at h3 ⊢;rcases h3 with (h3|h3)|h3<;>simp[h3]⟩
  ·rintro ⟨⟨h,h1⟩,h2⟩
   refine ⟨?_,h1,h2⟩
   rcases h with h|⟨p,h,h3⟩
   ·exact .inl h
   ·exact .inr ⟨p,h,by simp only[List.mem_append] at h3 ⊢;rcases h3 with h3|h3|h3<;>simp[h3]⟩
theorem E0 {l:List Bool} {v:Int} (h0:0≤v) (hl:v.toNat<l.length) {x:Int} (hx:0≤x):gb (l.set v.toNat true) x=true↔x=v∨gb l x=true:=by
 unfold gb
 by_cases e:x=v
 ·subst e;rw[List.getElem?_set_self hl];simp
 ·rw[List.getElem?_set_ne (by omega)];simp[e]
theorem tC.begin {E:Int→List Int} {n:Nat} (hE:EOk E n):tC E n (ro n):=by
 have hn:=hE.npos
 refine ⟨by simp[ro],fun v hv=>?_,fun v hv=>?_,by simp[ro],fun v hv=>?_,fun b hb=>by simp[ro] at hb,fun q hq=>?_,⟨.inl rfl,trivial⟩,rfl⟩
 ·simp[ro] at hv;omega
 ·have:=E0 (l:=List.replicate n false) (v:=0) (by omega) (by simp;exact hn) hv
  show gb ((List.replicate n false).set 0 true) v=true↔v∈[]++[0]
  rw[show (0:Int).toNat=0 from rfl] at this
  rw[this]
  have h2:gb (List.replicate n false) v=false:=by unfold gb;rw[List.getElem?_replicate];split<;>rfl
  simp[h2]
 ·simp[ro] at hv;subst hv;exact .refl trivial
 ·simp[ro] at hq;subst hq;exact ⟨w2 _,fun i hi=>by omega⟩
theorem tC.step {E:Int→List Int} {n:Nat} (hE:EOk E n) {x:HP} (h:tC E n x):tC E n (ut E x):=by
 obtain ⟨seen,out,st⟩:=x
 cases st with
 |nil=>exact h
 |cons q r=>
  obtain ⟨b,k⟩:=q
  obtain ⟨hlen,hrng,hseen,hnd,hrch,hdone,hpart,hled,hlast⟩:=h
  dsimp only at hlen hrng hseen hnd hrch hdone hpart hled hlast
  rw[List.map_cons] at hrng hseen hnd hrch hdone hpart hled hlast
  have hb:=hpart (b,k) (.head _)
  dsimp only at hb
  rw[m2]
  by_cases hk:k=(E b).length
  ·rw[if_pos hk]
   have e:(out++[b])++r.map Prod.fst=out++b::r.map Prod.fst:=by simp
   refine ⟨hlen,?_,?_,?_,?_,?_,?_,?_,?_⟩<;>dsimp only<;>rw[e]
   ·exact hrng
   ·exact hseen
   ·exact hnd
   ·exact hrch
   ·intro c hc
    rcases List.mem_append.1 hc with hc|hc
    ·exact hdone c hc
    ·obtain rfl:=List.mem_singleton.1 hc
     intro d hd
     obtain ⟨i,hi,rfl⟩:=List.mem_iff_getElem.1 hd
     have:=hb.2 i (by omega)
     unfold ge at this
     rwa [qx hi] at this
   ·exact fun q hq=>hpart q (.tail _ hq)
   ·exact hled
   ·exact hlast
  ·rw[if_neg hk]
   have hk2:k<(E b).length:=by omega
   have hge:ge (E b) k=(E b)[k]:=by unfold ge;rw[qx hk2];rfl
   have hmem:ge (E b) k∈E b:=hge▸w3 hk2
   obtain ⟨c,hc⟩:∃c,ge (E b) k=c:=⟨_,rfl⟩
   rw[hc] at hmem ⊢
   have hbr:=hrng b (by simp)
   have hcr:=hE.rng b hbr.1 hbr.2 c hmem
   by_cases hs:gb seen c=true
   ·rw[if_pos hs]
    refine ⟨hlen,?_,?_,?_,?_,?_,fun q hq=>?_,?_,?_⟩<;>dsimp only<;>rw[List.map_cons]
    ·exact hrng
    ·exact hseen
    ·exact hnd
    ·exact hrch
    ·exact hdone
    ·rcases List.mem_cons.1 hq with rfl|hq
     ·refine ⟨hk2,fun i hi=>?_⟩
      by_cases e:i=k
      ·subst e;dsimp only;rw[hc];exact (hseen c hcr.1).1 hs
      ·exact hb.2 i (by dsimp only at hi;omega)
     ·exact hpart q (.tail _ hq)
    ·exact hled
    ·exact hlast
   ·rw[if_neg hs]
    have hnm:c ∉ out++b::r.map Prod.fst:=fun hm=>hs ((hseen c hcr.1).2 hm)
    have hmm:∀v,v∈out++(c::b::r.map Prod.fst)↔v=c∨v∈out++b::r.map Prod.fst:=fun v=>by
     simp only[List.mem_append,List.mem_cons]
     constructor
     ·rintro (h|h|h|h)<;>simp[h]
     ·rintro (h|h|h|h)<;>simp[h]
    refine ⟨by dsimp only;rw[List.length_set];exact hlen,?_,fun v hv=>?_,?_,?_,?_,fun q hq=>?_,?_,?_⟩<;>dsimp only<;>rw[List.map_cons,List.map_cons]
    ·intro v hv
     rcases (hmm v).1 hv with rfl|hv
     ·exact hcr
     ·exact hrng v hv
    ·rw[E0 hcr.1 (by omega) hv,hmm,hseen v hv]
    ·have:(out++c::b::r.map Prod.fst).Perm (c::(out++b::r.map Prod.fst)):=List.perm_middle
     rw[this.nodup_iff,List.nodup_cons]
     exact ⟨hnm,hnd⟩
    ·intro v hv
     rcases (hmm v).1 hv with rfl|hv
     ·exact .step (hrch b (by simp)) hmem trivial
     ·exact hrch v hv
    ·exact fun a ha d hd=>(hmm d).2 (.inr (hdone a ha d hd))
    ·rcases List.mem_cons.1 hq with rfl|hq
     ·exact ⟨w2 _,fun i hi=>by dsimp only at hi;omega⟩
     ·rcases List.mem_cons.1 hq with rfl|hq
      ·refine ⟨hk2,fun i hi=>(hmm _).2 ?_⟩
       by_cases e:i=k
       ·subst e;left;exact hc
       ·exact .inr (hb.2 i (by dsimp only at hi;omega))
      ·exact ⟨(hpart q (.tail _ hq)).1,fun i hi=>(hmm _).2 (.inr ((hpart q (.tail _ hq)).2 i hi))⟩
    ·rw[BU] at hled ⊢
     refine ⟨?_,.inr ⟨b,hmem,.inl (.head _)⟩,hled.2⟩
     have weak:∀(l s t:List Int),(∀x∈s,x∈t)→EZ E l s→EZ E l t:=fun l s t hst=>by
      induction l with
      |nil=>exact fun _=>trivial
      |cons v l ih=>
       rintro ⟨h1,h2⟩
       refine ⟨?_,ih h2⟩
       rcases h1 with h1|⟨p,h1,h3⟩
       ·exact .inl h1
       ·exact .inr ⟨p,h1,h3.imp id (hst p)⟩
     exact weak _ _ _ (fun x hx=>by simp only[wc] at hx ⊢;exact .tail _ hx) hled.1
    ·rw[List.getLast?_append,List.getLast?_cons_cons]
     rw[List.getLast?_append] at hlast
     exact hlast
def nP (x:HP):Nat:=4*(x.1.filter (fun b=>!b)).length+(x.2.2.map fun q=>3 - q.2).sum
theorem kO:∀(l:List Bool) (i:Nat),l[i]?=some false→((l.set i true).filter (fun b=>!b)).length+1=(l.filter (fun b=>!b)).length
 |[],i,h=>by simp at h
 |b::l,0,h=>by simp at h;subst h;simp
 |b::l,i+1,h=>by
  have:=kO l i (by simpa using h)
  cases b<;>simp<;>omega
theorem tC.less {E:Int→List Int} {n:Nat} (hE:EOk E n) {x:HP} (h:tC E n x) (hs:x.2.2≠[]):nP (ut E x)<nP x:=by
 obtain ⟨seen,out,st⟩:=x
 cases st with
 |nil=>exact absurd rfl hs
 |cons q r=>
  obtain ⟨b,k⟩:=q
  have hb:=h.part (b,k) (.head _)
  have hl2:=hE.len b
  have hbr:=h.rng b (by simp)
  dsimp only at hb
  rw[m2]
  unfold nP
  by_cases hk:k=(E b).length
  ·rw[if_pos hk];simp;omega
  ·rw[if_neg hk]
   have hk2:k<(E b).length:=by omega
   have hge:ge (E b) k=(E b)[k]:=by unfold ge;rw[qx hk2];rfl
   have hcr:=hE.rng b hbr.1 hbr.2 _ (hge▸w3 hk2)
   split
   ·simp;omega
   ·rename_i hg
    have hlt:(ge (E b) k).toNat<seen.length:=by have:=h.len;dsimp only at this;omega
    have:=kO seen (ge (E b) k).toNat (by
     unfold gb at hg
     rw[qx hlt] at hg ⊢
     simpa using hg)
    simp;omega
theorem oF {E:Int→List Int} {x:HP} (h:x.2.2=[]):ut E x=x:=by
 obtain ⟨seen,out,st⟩:=x
 dsimp only at h
 subst h;rfl
section
variable {E:Int→List Int} {n:Nat} (hE:EOk E n)
include hE
theorem fH:∀k,tC E n (fw E n k)
 |0=>tC.begin hE
 |k+1=>(fH k).step hE
theorem JM:nP (ro n)<4*n:=by
 have hn:=hE.npos
 have:=kO (List.replicate n false) 0 (by rw[List.getElem?_replicate,if_pos hn])
 have h2:((List.replicate n false).filter fun b=>!b).length=n:=by simp
 unfold nP ro
 simp at this ⊢
 omega
theorem rp:∀k,(fw E n k).2.2=[]∨nP (fw E n k)+k<4*n
 |0=>.inr (by have:=JM hE;simpa [fw] using this)
 |k+1=>by
  rcases rp k with h|h
  ·left;rw[fw,oF h];exact h
  ·by_cases hs:(fw E n k).2.2=[]
   ·left;rw[fw,oF hs];exact hs
   ·right
    have:=(fH hE k).less hE hs
    rw[fw];omega
theorem qB:(fw E n (4*n)).2.2=[]:=by
 rcases rp hE (4*n) with h|h
 ·exact h
 ·omega
omit hE in
theorem C3 {k:Nat} (h:(fw E n k).2.2=[]) (hk:k≤4*n):fw E n (4*n)=fw E n k:=by
 have:∀j,fw E n (k+j)=fw E n k:=fun j=>by
  induction j with
  |zero=>rfl
  |succ j ih=>rw[←Nat.add_assoc,fw,ih,oF h]
 have h2:=this (4*n - k)
 rwa [show k+(4*n - k)=4*n by omega] at h2
theorem bQ (v:Int):v∈aH E n↔nD E v:=by
 have h:=fH hE (4*n)
 have he:=qB hE
 unfold aH
 obtain ⟨hlen,hrng,hseen,hnd,hrch,hdone,hpart,hled,hlast⟩:=h
 rw[he] at hrng hseen hnd hrch hdone hpart hled hlast
 simp only[List.map_nil,wc] at hrng hseen hnd hrch hdone hpart hled hlast
 rw[List.mem_reverse]
 refine ⟨hrch v,fun hr=>?_⟩
 unfold nD at hr
 induction hr with
 |refl _=>exact List.mem_of_getLast? hlast
 |step _ h1 _ ih=>exact hdone _ ih _ h1
theorem cQ {v:Int} (hv:v∈aH E n):0≤v∧v<n:=by
 have h:=(fH hE (4*n)).rng
 exact h v (List.mem_append_left _ (by unfold aH at hv;exact List.mem_reverse.1 hv))
theorem jN:(aH E n).Nodup:=by
 have h:=(fH hE (4*n)).nodup
 rw[qB hE] at h
 unfold aH
 rw[(List.reverse_perm _).nodup_iff]
 simpa using h
theorem m3:(aH E n)[0]?=some 0:=by
 have h:=(fH hE (4*n)).last
 rw[qB hE] at h
 unfold aH
 rw[←List.head?_eq_getElem?,List.head?_reverse]
 simpa using h
theorem C4 (k:Nat) (v:Int) (hk:(aH E n)[k]?=some v) (h0:v≠0):∃(j:Nat) (p:Int),j<k∧(aH E n)[j]?=some p∧v∈E p:=by
 have h:=(fH hE (4*n)).led
 rw[qB hE] at h
 simp only[List.map_nil,wc] at h
 unfold aH at hk ⊢
 generalize (fw E n (4*n)).2.1=out at h hk ⊢
 have key:∀(out:List Int),EZ E out []→∀k,out.reverse[k]?=some v→∃(j:Nat) (p:Int),j<k∧out.reverse[j]?=some p∧v∈E p:=fun out=>by
  induction out with
  |nil=>intro _ k hk;simp at hk
  |cons w out ih=>
   rintro ⟨h1,h2⟩ k hk
   rw[List.reverse_cons] at hk ⊢
   by_cases hlt:k<out.reverse.length
   ·rw[List.getElem?_append_left hlt] at hk
    obtain ⟨j,p,h3,h4,h5⟩:=ih h2 k hk
    exact ⟨j,p,h3,by rw[List.getElem?_append_left (by omega)];exact h4,h5⟩
   ·rw[List.getElem?_append_right (by omega)] at hk
    have hk0:k=out.reverse.length∧w=v:=by
     cases hq:k - out.reverse.length with
     |zero=>rw[hq] at hk;simp at hk;exact ⟨by omega,hk⟩
     |succ q=>rw[hq] at hk;simp at hk
    obtain ⟨rfl,rfl⟩:=hk0
    rcases h1 with h1|⟨p,h1,h3⟩
    ·exact absurd h1 h0
    ·have h3:p∈out.reverse:=by simpa using h3
     obtain ⟨j,hj,e⟩:=List.mem_iff_getElem.1 h3
     exact ⟨j,p,hj,by rw[List.getElem?_append_left hj,qx hj,e],h1⟩
 exact key out h k hk
end
end
section
open Go.Proofs.Tryz
def aY (n:Nat):List Int:=(List.range n).map Int.ofNat
theorem m4 {n k:Nat} (h:k<n):(aY n)[k]?=some (k:Int):=by unfold aY;rw[w7,List.getElem?_range h];rfl
theorem bR (n:Nat):(aY n).length=n:=by simp[aY]
theorem dB {n:Nat} {x:Int}:x∈aY n↔0≤x∧x<n:=by
 unfold aY
 rw[List.mem_map]
 constructor
 ·rintro ⟨k,hk,rfl⟩;have:=List.mem_range.1 hk;exact ⟨Int.natCast_nonneg k,Int.ofNat_lt.2 this⟩
 ·rintro ⟨h0,h1⟩;exact ⟨x.toNat,List.mem_range.2 (by omega),wj h0⟩
theorem pn (n:Nat):aY (n+1)=aY n++[(n:Int)]:=by unfold aY;rw[List.range_succ,wb];rfl
def bj (E:Int→List Int) (n:Nat) (b:Int):List Int:=(aY n).flatMap fun i=>((E i).filter fun c=>decide (c=b)).map fun _=>i
theorem iV {E:Int→List Int} {n:Nat} {b p:Int} (hE:EOk E n) (ho:∀x:Int,¬(0≤x∧x<n)→E x=[]):p∈bj E n b↔b∈E p:=by
 unfold bj
 rw[List.mem_flatMap]
 constructor
 ·rintro ⟨i,hi,h⟩
  obtain ⟨c,hc,rfl⟩:=List.mem_map.1 h
  obtain ⟨h1,h2⟩:=List.mem_filter.1 hc
  have h2:c=b:=by simpa using h2
  exact h2▸h1
 ·intro h
  have hp:0≤p∧p<n:=Classical.byContradiction fun hn=>by rw[ho p hn] at h;cases h
  exact ⟨p,dB.2 hp,List.mem_map.2 ⟨b,List.mem_filter.2 ⟨h,by simp⟩,rfl⟩⟩
theorem vm {l:List Int} {b:Int} (h0:0≤b) (h:b.toNat<l.length) (m x:Int):gi (l.set b.toNat m) x=if x=b then m else gi l x:=by rw[vk h0 h];rfl
theorem rr (n:Nat):∀(W:List Int) (i:Nat) (l:List Int),l.length=n→W.Nodup→(∀b∈W,0≤b∧b<n) →
  ((W.zipIdx i).foldl (fun l p=>l.set p.1.toNat (p.2:Int)) l).length=n∧(∀(k:Nat) b,W[k]?=some b→gi ((W.zipIdx i).foldl (fun l p=>l.set p.1.toNat (p.2:Int)) l) b=((i+k:Nat):Int)) ∧
  ∀b,b ∉ W→gi ((W.zipIdx i).foldl (fun l p=>l.set p.1.toNat (p.2:Int)) l) b=gi l b
 |[],i,l,hl,_,_=>⟨hl,fun k b h=>by simp at h,fun b _=>rfl⟩
 |v::W,i,l,hl,hW,hr=>by
  rw[List.zipIdx_cons,List.foldl_cons]
  rw[List.nodup_cons] at hW
  have hv:=hr v (.head _)
  obtain ⟨g1,g2,g3⟩:=rr n W (i+1) (l.set v.toNat (i:Int)) (by rw[List.length_set];exact hl) hW.2 fun b hb=>hr b (.tail _ hb)
  refine ⟨g1,fun k b h=>?_,fun b hb=>?_⟩
  ·cases k with
   |zero=>
    simp at h;subst h
    rw[g3 _ hW.1,vm hv.1 (by omega),if_pos rfl];rfl
   |succ k=>
    rw[g2 k b (by simpa using h)];omega
  ·rw[g3 b (fun h=>hb (.tail _ h)),vm hv.1 (by omega),if_neg (fun e=>hb (by rw[e];exact .head _))]
theorem JN (n:Nat) (x:Int):gi (List.replicate n (-1)) x=-1:=by
 unfold gi;split
 ·rw[List.getElem?_replicate];split<;>rfl
 ·rfl
structure fP (E:Int→List Int) (n:Nat):Prop extends EOk E n where
 out:∀x:Int,¬(0≤x∧x<n)→E x=[]
section
variable {E:Int→List Int} {n:Nat} (hE:fP E n)
include hE
theorem lR {k:Nat} {b:Int} (h:(aH E n)[k]?=some b):gi (eh n (aH E n)) b=k:=by
 have:=(rr n (aH E n) 0 (List.replicate n (-1)) (by simp) (jN hE.toEOk) fun b hb=>cQ hE.toEOk hb).2.1 k b h
 rw[Nat.zero_add] at this
 exact this
theorem BV {b:Int} (h:b ∉ aH E n):gi (eh n (aH E n)) b=-1:=by
 have:=(rr n (aH E n) 0 (List.replicate n (-1)) (by simp) (jN hE.toEOk) fun b hb=>cQ hE.toEOk hb).2.2 b h
 rw[JN] at this
 exact this
theorem fP.gok:ox E (eh n (aH E n)) (aH E n) (bj E n) n:=by
 have hpos:∀b,b∈aH E n↔0≤gi (eh n (aH E n)) b:=fun b=>by
  constructor
  ·intro hb
   obtain ⟨k,hk,e⟩:=List.mem_iff_getElem.1 hb
   rw[lR hE (k:=k) (by rw[qx hk,e])];omega
  ·intro h
   refine Classical.byContradiction fun hb=>?_
   rw[BV hE hb] at h;omega
 refine ⟨⟨bQ hE.toEOk,hpos,fun a b ha hb e=>?_,lR hE (k:=0) (m3 hE.toEOk),fun b hb h0=>?_,fun b hb=>BV hE hb,fun b hb=>(cQ hE.toEOk hb).1⟩,fun b hb=>(cQ hE.toEOk hb).2,fun k hk=>?_,fun b _ p=>iV hE.toEOk hE.out⟩
 ·obtain ⟨j,hj,e1⟩:=List.mem_iff_getElem.1 ha
  obtain ⟨k,hk,e2⟩:=List.mem_iff_getElem.1 hb
  rw[lR hE (k:=j) (by rw[qx hj,e1]),lR hE (k:=k) (by rw[qx hk,e2])] at e
  have:j=k:=by omega
  subst this
  rw[←e1,←e2]
 ·obtain ⟨k,hk,e⟩:=List.mem_iff_getElem.1 hb
  obtain ⟨j,p,h1,h2,h3⟩:=C4 hE.toEOk k b (by rw[qx hk,e]) h0
  refine ⟨p,?_,h3,?_⟩
  ·obtain ⟨hj,e2⟩:=List.getElem?_eq_some_iff.1 h2
   exact e2▸w3 hj
  ·rw[lR hE h2,lR hE (k:=k) (by rw[qx hk,e])];omega
 ·rw[qx hk]
  exact lR hE (qx hk)
end
def cR (E:Int→List Int) (n:Nat):List Int:=ur (eh n (aH E n)) (aH E n) (bj E n) n
theorem mv (E:Int→List Int) (n:Nat):(cR E n).length=n:=by unfold cR ur;rw[mu];simp[fO]
def xc (N l:List Int) (b:Int):List Int:=l.set b.toNat (gi l (gi N b)+1)
def b9 (E:Int→List Int) (n:Nat):List Int:=(aH E n).tail.foldl (xc (cR E n)) (fO n)
theorem xd (N l:List Int) (b:Int):(xc N l b).length=l.length:=by unfold xc;rw[List.length_set]
section
variable {E:Int→List Int} {n:Nat} (hE:fP E n)
include hE
theorem fP.exact:lj E (gi (eh n (aH E n))) (aH E n) (gi (cR E n)):=hE.gok.near
theorem fP.near_mem {b:Int} (hb:b∈aH E n) (h0:b≠0):gi (cR E n) b∈aH E n∧gi (eh n (aH E n)) (gi (cR E n) b)<gi (eh n (aH E n)) b:=by
 have:=hE.exact.inv.near b h0 (hE.exact.has b hb)
 exact ⟨this.1,this.2.2⟩
structure pO (E:Int→List Int) (n:Nat) (l:List Int) (k:Nat):Prop where
 len:l.length=n
 zero:gi l 0=0
 row:∀b∈aH E n,b≠0→gi (eh n (aH E n)) b<k→gi l b=gi l (gi (cR E n) b)+1∧0≤gi l b
 none:∀b,(b∈aH E n→(k:Int)≤gi (eh n (aH E n)) b)→b≠0→gi l b=-1
omit hE in
theorem m5 (n:Nat):(fO n).length=n:=by simp[fO]
theorem pO.first:pO E n (fO n) 1:=by
 have hn:=hE.npos
 refine ⟨m5 n,by rw[nO hn];rfl,fun b hb h0 hlt=>?_,fun b _ h0=>by rw[nO hn];simp[h0]⟩
 have h1:=hE.gok.ord
 have:b=0:=h1.inj b 0 hb h1.zmem (by rw[h1.zero];have:=(h1.pos b).1 hb;omega)
 exact absurd this h0
theorem pO.step {l:List Int} {k:Nat} {b:Int} (hk:0<k) (hb:(aH E n)[k]?=some b) (h:pO E n l k):pO E n (xc (cR E n) l b) (k+1):=by
 have ho:=hE.gok.ord
 obtain ⟨hk2,e⟩:=List.getElem?_eq_some_iff.1 hb
 have hbm:b∈aH E n:=e▸w3 hk2
 have hat:=lR hE hb
 have hb0:b≠0:=fun e2=>by rw[e2,ho.zero] at hat;omega
 have hr:=cQ hE.toEOk hbm
 have hnr:=hE.near_mem hbm hb0
 have hnb:gi (cR E n) b≠b:=fun e2=>by rw[e2] at hnr;omega
 have hlen:=h.len
 have hst:∀x,gi (xc (cR E n) l b) x=if x=b then gi l (gi (cR E n) b)+1 else gi l x:=fun x=>vm hr.1 (by omega) _ x
 refine ⟨by rw[xd];exact h.len,by rw[hst,if_neg hb0.symm];exact h.zero,fun x hx h0 hlt=>?_,fun x hx h0=>?_⟩
 ·by_cases ex:x=b
  ·subst ex
   rw[hst,if_pos rfl,hst,if_neg hnb]
   refine ⟨U,?_⟩
   by_cases hn0:gi (cR E n) x=0
   ·rw[hn0,h.zero];omega
   ·have:=(h.row _ hnr.1 hn0 (by omega)).2;omega
  ·have hlt2:gi (eh n (aH E n)) x<k:=by
    have:gi (eh n (aH E n)) x≠gi (eh n (aH E n)) b:=fun e2=>ex (ho.inj x b hx hbm e2)
    omega
   have hnx:=hE.near_mem hx h0
   have hne:gi (cR E n) x≠b:=fun e2=>by rw[e2] at hnx;omega
   rw[hst,if_neg ex,hst,if_neg hne]
   exact h.row x hx h0 hlt2
 ·have ex:x≠b:=fun e2=>by subst e2;have:=hx hbm;omega
  rw[hst,if_neg ex]
  exact h.none x (fun hm=>by have:=hx hm;omega) h0
theorem pO.fold:∀(bs:List Int) (k:Nat) (l:List Int),0<k→(aH E n).drop k=bs→pO E n l k→pO E n (bs.foldl (xc (cR E n)) l) (max k (aH E n).length)
 |[],k,l,hk,hd,h=>by
  have:(aH E n).length≤k:=by have:=congrArg List.length hd;simp at this;omega
  rw[Nat.max_eq_left this];exact h
 |b::bs,k,l,hk,hd,h=>by
  have hk2:k<(aH E n).length:=by have:=congrArg List.length hd;simp at this;omega
  have hb:(aH E n)[k]?=some b:=by have:=congrArg (fun z:List Int=>z[0]?) hd;simpa using this
  have:=pO.fold bs (k+1) _ (by omega) (by rw[←List.drop_drop,hd];rfl) (h.step hE hk hb)
  rw[List.foldl_cons]
  rwa [show max (k+1) (aH E n).length=max k (aH E n).length by omega] at this
theorem fP.lev:pO E n (b9 E n) (aH E n).length:=by
 have:=pO.fold hE (aH E n).tail 1 _ (by omega) (by rw[List.drop_one]) (pO.first hE)
 rwa [Nat.max_eq_right hE.gok.pos] at this
theorem fP.at_lt {b:Int} (hb:b∈aH E n):gi (eh n (aH E n)) b<(aH E n).length:=by
 obtain ⟨k,hk,_,e⟩:=hE.gok.at_lt hb
 rw[e];omega
theorem fP.lev_near {b:Int} (hb:b∈aH E n) (h0:b≠0):gi (b9 E n) b=gi (b9 E n) (gi (cR E n) b)+1:=(hE.lev.row b hb h0 (hE.at_lt hb)).1
theorem fP.lev_nn {b:Int} (hb:b∈aH E n):0≤gi (b9 E n) b:=by
 by_cases h0:b=0
 ·rw[h0,hE.lev.zero];omega
 ·exact (hE.lev.row b hb h0 (hE.at_lt hb)).2
theorem fP.lev_none {b:Int} (hb:b ∉ aH E n):gi (b9 E n) b=-1:=hE.lev.none b (fun h=>absurd h hb) (fun e=>hb (by rw[e];exact hE.gok.ord.zmem))
theorem fP.lev_mem (b:Int):gi (b9 E n) b≠-1↔b∈aH E n:=by
 refine ⟨fun h=>Classical.byContradiction fun hb=>h (hE.lev_none hb),fun hb h=>?_⟩
 have:=hE.lev_nn hb;omega
theorem fP.lev_anc {b a:Int} (hb:b∈aH E n) (h:iN (gi (cR E n)) b a):a∈aH E n∧gi (b9 E n) a≤gi (b9 E n) b∧(gi (b9 E n) b≤gi (b9 E n) a→a=b):=by
 induction h with
 |refl b=>exact ⟨hb,Int.le_refl _,fun _=>rfl⟩
 |@up x a h1 h2 h3 ih=>
  obtain ⟨g1,g2,g3⟩:=ih (hE.near_mem hb h1).1
  have:=hE.lev_near hb h1
  exact ⟨g1,by omega,fun _=>by omega⟩
theorem fP.dom_iff {a b:Int} (hb:b∈aH E n):gC E a b↔iN (gi (cR E n)) b a:=(hE.exact.anc b a hb).symm
end
def vn (N:List Int):Nat→Int→List Int
 |0,_=>[]
 |k+1,b=>b::if b=0 then[] else vn N k (gi N b)
def lS (E:Int→List Int) (n:Nat) (a b:Int):Bool:=decide (gi (b9 E n) b≠-1)&&(vn (cR E n) n b).contains a
section
variable {E:Int→List Int} {n:Nat} (hE:fP E n)
include hE
theorem oG {a:Int}:∀(k:Nat) (b:Int),b∈aH E n→gi (b9 E n) b<k→(a∈vn (cR E n) k b↔iN (gi (cR E n)) b a)
 |0,b,hb,hk=>by have:=hE.lev_nn hb;omega
 |k+1,b,hb,hk=>by
  unfold vn
  rw[List.mem_cons]
  by_cases h0:b=0
  ·rw[if_pos h0]
   constructor
   ·rintro (h|h)
    ·subst h;exact .refl _
    ·cases h
   ·intro h
    rcases h.cases' with e|⟨h1,_⟩
    ·exact .inl e
    ·exact absurd h0 h1
  ·rw[if_neg h0]
   have h1:=hE.near_mem hb h0
   have h2:=hE.lev_near hb h0
   rw[oG k _ h1.1 (by omega)]
   constructor
   ·rintro (h|h)
    ·subst h;exact .refl _
    ·exact .up h0 (hE.exact.has b hb) h
   ·intro h
    rcases h.cases' with e|⟨_,_,h3⟩
    ·exact .inl e
    ·exact .inr h3
theorem Az {b:Int} (hb:b∈aH E n):gi (b9 E n) b≤gi (eh n (aH E n)) b:=by
 obtain ⟨k,hk⟩:∃k:Nat,gi (eh n (aH E n)) b≤k:=⟨(gi (eh n (aH E n)) b).toNat,by omega⟩
 induction k generalizing b with
 |zero=>
  have ho:=hE.gok.ord
  have:b=0:=ho.inj b 0 hb ho.zmem (by rw[ho.zero];have:=(ho.pos b).1 hb;omega)
  rw[this,hE.lev.zero,ho.zero];omega
 |succ k ih=>
  by_cases h0:b=0
  ·rw[h0,hE.lev.zero,hE.gok.ord.zero];omega
  ·have h1:=hE.near_mem hb h0
   have h2:=hE.lev_near hb h0
   have:=ih h1.1 (by omega)
   omega
omit hE in
theorem mw:∀(l m:List Int),l.Nodup→(∀x∈l,x∈m)→l.length≤m.length
 |[],_,_,_=>w2 _
 |x::l,m,h1,h2=>by
  rw[List.nodup_cons] at h1
  have hx:=h2 x (.head _)
  have:=mw l (m.erase x) h1.2 fun y hy=>(List.mem_erase_of_ne (fun e=>h1.1 (by rw[←e];exact hy))).2 (h2 y (.tail _ hy))
  have hp:=List.length_pos_of_mem hx
  rw[List.length_erase_of_mem hx] at this
  rw[List.length_cons];omega
theorem fZ:(aH E n).length≤n:=by
 have h1:=jN hE.toEOk
 have h2:∀x∈aH E n,x∈aY n:=fun x hx=>dB.2 (cQ hE.toEOk hx)
 have:=mw _ _ h1 h2
 rwa [bR] at this
theorem fP.domB_iff (a b:Int):lS E n a b=true↔gC E a b:=by
 unfold lS
 rw[wh,decide_eq_true_iff,hE.lev_mem]
 constructor
 ·rintro ⟨hb,h⟩
  have h1:=Az hE hb
  have h2:=hE.at_lt hb
  have h3:=fZ hE
  exact (hE.dom_iff hb).2 ((oG hE n b hb (by omega)).1 (by simpa using h))
 ·intro h
  have hb:=(bQ hE.toEOk b).2 h.1
  have h1:=Az hE hb
  have h2:=hE.at_lt hb
  have h3:=fZ hE
  exact ⟨hb,by simpa using (oG hE n b hb (by omega)).2 ((hE.dom_iff hb).1 h)⟩
end
end
section
open Go.Proofs.Tryz
def cK (t:fg):List Int:=if t.kind=0 then[t.to0] else if t.kind=1 then (if t.to0=t.to1 then[t.to0] else[t.to0,t.to1]) else[]
theorem uu (t:fg):(cK t).length≤2:=by unfold cK;split<;>(try split)<;>(try split)<;>simp
theorem xe (t:fg):(cK t).Nodup:=by
 unfold cK
 split
 ·simp
 ·split
  ·split<;>simp_all
  ·simp
def ah (f:ab) (b:Int):List Int:=if 0≤b then ((f.blocks[b.toNat]?).map fun c=>cK c.term).getD [] else[]
theorem m6 {f:ab} {k:Nat} (h:k<f.blocks.length):ah f (k:Int)=cK f.blocks[k].term:=by
 unfold ah;rw[if_pos (by omega)]
 rw[show ((k:Int).toNat)=k from rfl,qx h];rfl
theorem kP {f:ab} {b:Int} (h0:0≤b) (h:b.toNat<f.blocks.length):ah f b=cK f.blocks[b.toNat].term:=by
 unfold ah;rw[if_pos h0,qx h];rfl
theorem eN {f:ab} {b:Int} (h:¬(0≤b∧b<f.blocks.length)):ah f b=[]:=by
 unfold ah
 split
 ·rw[List.getElem?_eq_none (by omega)];rfl
 ·rfl
theorem ru (f:ab) (b:Int):(ah f b).length≤2:=by
 unfold ah
 split
 ·cases f.blocks[b.toNat]? with
  |none=>simp
  |some c=>exact uu c.term
 ·simp
theorem iC (f:ab) (b:Int):(ah f b).Nodup:=by
 unfold ah
 split
 ·cases f.blocks[b.toNat]? with
  |none=>simp
  |some c=>exact xe c.term
 ·simp
structure cg (f:ab):Prop where
 pos:0<f.blocks.length
 rng:∀b∈f.blocks,∀c∈cK b.term,0≤c∧c<f.blocks.length
theorem cg.grph {f:ab} (h:cg f):fP (ah f) f.blocks.length:=
 {npos:=h.pos
  rng:=fun b h0 h1 c hc=>by
   rw[kP h0 (by omega)] at hc
   exact h.rng _ (w3 (by omega)) c hc
  len:=ru f
  out:=fun _ hx=>eN hx }
theorem nQ {E:Int→List Int} (hn:∀b,(E b).Nodup) (n:Nat) (b:Int):(bj E n b).Nodup∧(bj E n b).Pairwise (·<·):=by
 have key:(bj E n b).Pairwise (·<·):=by
  unfold bj
  rw[List.flatMap,List.pairwise_flatten]
  constructor
  ·intro l hl
   obtain ⟨i,_,rfl⟩:=List.mem_map.1 hl
   have h1:=hn i
   have h2:((E i).filter fun c=>decide (c=b)).length≤1:=by
    generalize E i=l at h1
    induction l with
    |nil=>simp
    |cons x l ih=>
     rw[List.nodup_cons] at h1
     rw[List.filter_cons]
     split
     ·rename_i hx
      have hx:x=b:=by simpa using hx
      have:l.filter (fun c=>decide (c=b))=[]:=List.filter_eq_nil_iff.2 fun y hy=>by
       intro e
       have:y=b:=by simpa using e
       rw[←hx] at this
       exact h1.1 (this▸hy)
      rw[this];simp
     ·exact ih h1.2
   match h3:((E i).filter fun c=>decide (c=b)) with
   |[]=>simp
   |[x]=>simp
   |x::y::r=>rw[h3] at h2;simp at h2
  ·rw[List.pairwise_map]
   unfold aY
   rw[List.pairwise_map]
   refine List.Pairwise.imp ?_ List.pairwise_lt_range
   intro i j hij x hx y hy
   obtain ⟨_,_,rfl⟩:=List.mem_map.1 hx
   obtain ⟨_,_,rfl⟩:=List.mem_map.1 hy
   exact Int.ofNat_lt.2 hij
 exact ⟨key.imp fun h e=>by omega,key⟩
def iW (E:Int→List Int) (a shut b:Int):Prop:=a≠shut∧∃c,c∈E a∧jZ E (fun x=>x≠shut) c b
theorem iW.step {E:Int→List Int} {a shut x y:Int} (h:(x=a∧a≠shut)∨iW E a shut x) (he:y∈E x) (hy:y≠shut):iW E a shut y:=by
 rcases h with ⟨rfl,h⟩|⟨h,c,hc,hw⟩
 ·exact ⟨h,y,he,.refl hy⟩
 ·exact ⟨h,c,hc,.step hw he hy⟩
theorem iW.closed {E:Int→List Int} {a shut:Int} {out:Int→Prop} (hc:∀x y,x≠shut→(x=a∨out x)→y∈E x→y≠shut→out y) {b:Int} (h:iW E a shut b):out b:=by
 obtain ⟨ha,c,hc1,hw⟩:=h
 induction hw with
 |refl h1=>exact hc a c ha (.inl rfl) hc1 h1
 |step h1 h2 h3 ih=>exact hc _ _ h1.end_ (.inr ih) h2 h3
theorem E1 {E:Int→List Int} {shut b:Int}:((b=0∧shut≠0)∨(b≠0∧iW E 0 shut b))↔jZ E (fun x=>x≠shut) 0 b:=by
 constructor
 ·rintro (⟨rfl,h⟩|⟨_,h,c,hc,hw⟩)
  ·exact .refl (fun e=>h e.symm)
  ·exact jZ.trans (.step (.refl h) hc hw.start) hw
 ·intro h
  by_cases hb:b=0
  ·exact .inl ⟨hb,fun e=>h.start e.symm⟩
  ·refine .inr ⟨hb,h.start,?_⟩
   rcases h.last with e|⟨c,hc,hw⟩
   ·exact absurd e hb
   ·exact ⟨c,hc,hw.mono fun _ h=>h.1⟩
theorem BW {E:Int→List Int} {n:Nat} (hE:fP E n) {b:Int}:jZ E (fun x=>x≠-1) 0 b↔nD E b:=by
 constructor
 ·exact fun h=>h.mono fun _ _=>trivial
 ·intro h
  refine h.self.mono fun x hx e=>?_
  have:=cQ hE.toEOk ((bQ hE.toEOk x).2 hx.2)
  omega
abbrev km:=Int × Int
def nR (v:Int) (i:Int) (b:aK):List km:=(b.phis.filter fun p=>decide (p.dst=v)).map (fun _=>(i,-1))++(b.insts.zipIdx.filter fun x=>decide (x.1.dst=v)).map fun x=>(i,(x.2:Int))
def bp (f:ab) (v:Int):List km:=f.blocks.zipIdx.flatMap fun b=>nR v (b.2:Int) b.1
def aD (f:ab) (v:Int):km:=(bp f v).head?.getD (-1,0)
def mP (f:ab):Prop:=∀v:Nat,v<f.vars.length→(bp f v).length≤1∧(bp f v≠[]→f.params.length≤v)
def bM (f:ab) (m:km) (b at_:Int):Prop:=m.1<0∨(m.1=b∧m.2<at_)∨(0≤m.1∧m.1≠b∧gC (ah f) m.1 b)
def E2 (f:ab):Prop:=∀i (h:i<f.blocks.length),∀p∈f.blocks[i].phis,p.from_.Perm (bj (ah f) f.blocks.length i)
def E3 (f:ab):Prop:=∀i:Nat,i<f.blocks.length→nD (ah f) i
def fA (f:ab) (b:Int):Int:=((f.blocks[b.toNat]?).map fun c=>(c.insts.length:Int)).getD 0
def vo (f:ab) (i:Nat) (b:aK):Prop:=
 (∀p∈b.phis,∀q∈p.args.zip p.from_,bM f (aD f q.1) q.2 (fA f q.2)) ∧
 (∀k (h:k<b.insts.length),∀v∈b.insts[k].args,bM f (aD f v) i k) ∧
 (b.term.kind=0∨bM f (aD f b.term.var) i b.insts.length)
def JO (f:ab):Prop:=∀i (h:i<f.blocks.length),vo f i f.blocks[i]
def E4 (f:ab):Prop:=E2 f∧E3 f∧mP f∧JO f
end
end Go.Proofs.YtbbonnfjealmpaaGreatDoor
