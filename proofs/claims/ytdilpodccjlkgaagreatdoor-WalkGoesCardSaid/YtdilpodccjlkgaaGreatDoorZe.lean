/- Joined: by sorting, and one by one; what is single, as truth values. No conditions. -/
import Derived.Test.YtdilpodccjlkgaaGreatDoorZa
import Derived.Test.YtdilpodccjlkgaaGreatDoorZd
import Derived.Test.YtdilpodccjlkgaaGreatDoorZc
import Derived.Test.YtdilpodccjlkgaaGreatDoorZb
set_option linter.unusedVariables false
set_option linter.unusedSimpArgs false
set_option linter.unusedSectionVars false
namespace Go.Proofs.YtdilpodccjlkgaaGreatDoor
open Go.Proofs.Tryz
inductive jG (S:Int→List Int) (p:Int→Prop) (r:Int):Int→Prop
 |refl:p r→jG S p r r
 |step {b c}:jG S p r b→c∈S b→p c→jG S p r c
theorem jG.end_ {S:Int→List Int} {p:Int→Prop} {r b:Int} (h:jG S p r b):p b:=by cases h<;>assumption
theorem jG.start {S:Int→List Int} {p:Int→Prop} {r b:Int} (h:jG S p r b):p r:=by induction h<;>assumption
theorem jG.mono {S:Int→List Int} {p q:Int→Prop} {r b:Int} (hpq:∀x,p x→q x) (h:jG S p r b):jG S q r b:=by
 induction h with
 |refl h=>exact .refl (hpq _ h)
 |step _ h1 h2 ih=>exact .step ih h1 (hpq _ h2)
theorem jG.trans {S:Int→List Int} {p:Int→Prop} {r b c:Int} (h:jG S p r b) (k:jG S p b c):jG S p r c:=by
 induction k with
 |refl _=>exact h
 |step _ h1 h2 ih=>exact .step ih h1 h2
theorem jG.self {S:Int→List Int} {p:Int→Prop} {r b:Int} (h:jG S p r b):jG S (fun x=>p x∧jG S p r x) r b:=by
 induction h with
 |refl h=>exact .refl ⟨h,.refl h⟩
 |step h0 h1 h2 ih=>exact .step ih h1 ⟨h2,.step h0 h1 h2⟩
theorem jG.last {S:Int→List Int} {p:Int→Prop} {r b:Int} (h:jG S p r b):b=r∨∃c,c∈S r∧jG S (fun x=>p x∧x≠r) c b:=by
 induction h with
 |refl h=>exact .inl rfl
 |@step b c h0 h1 h2 ih=>
  by_cases hc:c=r
  ·exact .inl hc
  ·right
   rcases ih with rfl|⟨d,hd,hw⟩
   ·exact ⟨c,h1,.refl ⟨h2,hc⟩⟩
   ·exact ⟨d,hd,.step hw h1 ⟨h2,hc⟩⟩
inductive gD (S:Int→List Int) (at_:Int→Int) (p:Int→Prop) (r:Int):Nat→Int→Prop
 |refl {k}:p r→gD S at_ p r k r
 |fwd {k b c}:gD S at_ p r k b→c∈S b→at_ b<at_ c→p c→gD S at_ p r k c
 |back {k b c}:gD S at_ p r k b→c∈S b→p c→gD S at_ p r (k+1) c
theorem gD.end_ {S:Int→List Int} {at_:Int→Int} {p:Int→Prop} {r b:Int} {k:Nat} (h:gD S at_ p r k b):p b:=by cases h<;>assumption
theorem gD.way {S:Int→List Int} {at_:Int→Int} {p:Int→Prop} {r b:Int} {k:Nat} (h:gD S at_ p r k b):jG S p r b:=by
 induction h with
 |refl h=>exact .refl h
 |fwd _ h1 _ h2 ih=>exact .step ih h1 h2
 |back _ h1 h2 ih=>exact .step ih h1 h2
theorem gD.ahead {S:Int→List Int} {at_:Int→Int} {p q:Int→Prop} {r c b:Int} {k:Nat} (h:gD S at_ q c k b) (hqp:∀x,q x→p x) (hr:p r) (hc:c∈S r):gD S at_ p r (k+1) b:=by
 induction h with
 |refl h=>exact .back (.refl hr) hc (hqp _ h)
 |fwd _ h1 h2 h3 ih=>exact .fwd ih h1 h2 (hqp _ h3)
 |back _ h1 h2 ih=>exact .back ih h1 (hqp _ h2)
theorem jG.short {S:Int→List Int} (at_:Int→Int):∀(n:Nat) (V:List Int) (p:Int→Prop) (r b:Int),V.length=n→(∀x,p x→x∈V)→jG S p r b→∃k,k+1≤n∧gD S at_ p r k b
 |0,V,p,r,b,hl,hV,h=>by
  have:=hV _ h.start
  rw[List.eq_nil_of_length_eq_zero hl] at this;cases this
 |n+1,V,p,r,b,hl,hV,h=>by
  rcases h.last with rfl|⟨c,hc,hw⟩
  ·exact ⟨0,by omega,.refl h.start⟩
  ·have hr:=hV _ h.start
   obtain ⟨k,hk,hb⟩:=jG.short at_ n (V.erase r) (fun x=>p x∧x≠r) c b (by rw[List.length_erase_of_mem hr,hl];rfl) (fun x hx=>(List.mem_erase_of_ne hx.2).2 (hV x hx.1)) hw
   exact ⟨k+1,by omega,hb.ahead (fun x hx=>hx.1) h.start hc⟩
def om (S:Int→List Int) (b:Int):Prop:=jG S (fun _=>True) 0 b
def gJ (S:Int→List Int) (a b:Int):Prop:=om S b∧¬jG S (fun x=>x≠a) 0 b
section
variable {S:Int→List Int}
theorem gJ.refl {b:Int} (h:om S b):gJ S b b:=⟨h,fun hw=>hw.end_ rfl⟩
theorem gJ.root {b:Int} (h:om S b):gJ S 0 b:=⟨h,fun hw=>hw.start rfl⟩
theorem gJ.rch {a b:Int} (h:gJ S a b):om S a:=by
 refine Classical.byContradiction fun hn=>h.2 ?_
 exact (jG.self h.1).mono fun x hx e=>hn (e▸hx.2)
theorem gJ.trans {a b c:Int} (h:gJ S a b) (k:gJ S b c):gJ S a c:=by
 refine ⟨k.1,fun hw=>?_⟩
 refine k.2<|hw.self.mono fun x hx e=>?_
 subst e
 exact h.2 hx.2
theorem gJ.pred {a b p:Int} (h:gJ S a b) (hp:om S p) (he:b∈S p) (hab:a≠b):gJ S a p:=
 ⟨hp,fun hw=>h.2 (.step hw he (fun e=>hab e.symm))⟩
theorem gJ.of_preds {a b:Int} (hb:om S b) (h0:b≠0) (h:∀p,om S p→b∈S p→gJ S a p):gJ S a b:=by
 refine ⟨hb,fun hw=>?_⟩
 cases hw with
 |refl _=>exact h0 rfl
 |step h1 h2 h3=>exact (h _ (h1.mono fun _ _=>trivial) h2).2 h1
end
inductive gz (N:Int→Int):Int→Int→Prop
 |refl (x):gz N x x
 |up {x a}:x≠0→N x≠-1→gz N (N x) a→gz N x a
theorem gz.trans {N:Int→Int} {x y z:Int} (h:gz N x y) (k:gz N y z):gz N x z:=by
 induction h with
 |refl=>exact k
 |up h1 h2 _ ih=>exact .up h1 h2 (ih k)
theorem gz.cases' {N:Int→Int} {x a:Int} (h:gz N x a):a=x∨(x≠0∧N x≠-1∧gz N (N x) a):=by
 cases h with
 |refl=>exact .inl rfl
 |up h1 h2 h3=>exact .inr ⟨h1,h2,h3⟩
structure rn (S:Int→List Int) (at_:Int→Int) (V:List Int):Prop where
 mem:∀b,b∈V↔om S b
 pos:∀b,b∈V↔0≤at_ b
 inj:∀a b,a∈V→b∈V→at_ a=at_ b→a=b
 zero:at_ 0=0
 fwd:∀b,b∈V→b≠0→∃p,p∈V∧b∈S p∧at_ p<at_ b
 none:∀b,b ∉ V→at_ b=-1
 nn:∀b,b∈V→0≤b
structure iF (S:Int→List Int) (at_:Int→Int) (V:List Int) (N:Int→Int):Prop where
 zero:N 0=0
 mem:∀b,N b≠-1→b∈V
 near:∀b,b≠0→N b≠-1→N b∈V∧N (N b)≠-1∧at_ (N b)<at_ b
 path:∀b,b≠0→N b≠-1→jG S (fun x=>at_ (N b)≤at_ x) (N b) b
 dom:∀b d,N b≠-1→gJ S d b→gz N b d
section
variable {S:Int→List Int} {at_:Int→Int} {V:List Int} {N:Int→Int}
theorem rn.zmem (hV:rn S at_ V):(0:Int)∈V:=(hV.mem 0).2 (.refl trivial)
theorem iF.anc (hN:iF S at_ V N) {x a:Int} (hx:N x≠-1) (h:gz N x a):N a≠-1∧at_ a≤at_ x∧jG S (fun y=>at_ a≤at_ y) a x:=by
 induction h with
 |refl x=>exact ⟨hx,Int.le_refl _,.refl (Int.le_refl _)⟩
 |@up x a h1 h2 h3 ih=>
  obtain ⟨g1,g2,g3⟩:=hN.near x h1 h2
  obtain ⟨i1,i2,i3⟩:=ih g2
  refine ⟨i1,by omega,i3.trans ((hN.path x h1 h2).mono fun y hy=>by omega)⟩
theorem iF.antisymm (hV:rn S at_ V) (hN:iF S at_ V N) {x a:Int} (hx:N x≠-1) (h:gz N x a) (e:at_ x≤at_ a):a=x:=by
 rcases h.cases' with h|⟨h1,h2,h3⟩
 ·exact h
 ·have g:=hN.near x h1 h2
  have:=(hN.anc g.2.1 h3).2.1
  omega
def dV (N at_:Int→Int):Nat→Int→Int→Int
 |0,a,_=>a
 |k+1,a,b=>if a=b then a else if at_ b<at_ a then dV N at_ k (N a) b else dV N at_ k a (N b)
theorem mw (hV:rn S at_ V) (hN:iF S at_ V N):∀(k:Nat) (a b:Int),N a≠-1→N b≠-1→at_ a+at_ b<k→N (dV N at_ k a b)≠-1∧∀x,gz N (dV N at_ k a b) x↔gz N a x∧gz N b x
 |0,a,b,ha,hb,hk=>by
  have h1:=(hV.pos a).1 (hN.mem a ha)
  have h2:=(hV.pos b).1 (hN.mem b hb)
  exact absurd hk (by omega)
 |k+1,a,b,ha,hb,hk=>by
  have h1:=(hV.pos a).1 (hN.mem a ha)
  have h2:=(hV.pos b).1 (hN.mem b hb)
  unfold dV
  by_cases hab:a=b
  ·rw[if_pos hab];subst hab;exact ⟨ha,fun x=>⟨fun h=>⟨h,h⟩,fun h=>h.1⟩⟩
  ·rw[if_neg hab]
   by_cases hlt:at_ b<at_ a
   ·rw[if_pos hlt]
    have ha0:a≠0:=fun e=>by rw[e,hV.zero] at hlt;omega
    obtain ⟨g1,g2,g3⟩:=hN.near a ha0 ha
    obtain ⟨i1,i2⟩:=mw hV hN k (N a) b g2 hb (by omega)
    refine ⟨i1,fun x=>(i2 x).trans ⟨fun h=>⟨.up ha0 ha h.1,h.2⟩,fun h=>⟨?_,h.2⟩⟩⟩
    rcases h.1.cases' with rfl|⟨_,_,h3⟩
    ·have:=(hN.anc hb h.2).2.1;omega
    ·exact h3
   ·rw[if_neg hlt]
    have hlt2:at_ a<at_ b:=by
     have:at_ a≠at_ b:=fun e=>hab (hV.inj a b (hN.mem a ha) (hN.mem b hb) e)
     omega
    have hb0:b≠0:=fun e=>by rw[e,hV.zero] at hlt2;omega
    obtain ⟨g1,g2,g3⟩:=hN.near b hb0 hb
    obtain ⟨i1,i2⟩:=mw hV hN k a (N b) ha g2 (by omega)
    refine ⟨i1,fun x=>(i2 x).trans ⟨fun h=>⟨h.1,.up hb0 hb h.2⟩,fun h=>⟨h.1,?_⟩⟩⟩
    rcases h.2.cases' with rfl|⟨_,_,h3⟩
    ·have:=(hN.anc ha h.1).2.1;omega
    ·exact h3
theorem lh (hV:rn S at_ V) (hN:iF S at_ V N):∀(k j:Nat) (a b:Int),N a≠-1→N b≠-1→at_ a+at_ b<k→k≤j→dV N at_ j a b=dV N at_ k a b
 |0,j,a,b,ha,hb,hk,_=>by
  have h1:=(hV.pos a).1 (hN.mem a ha)
  have h2:=(hV.pos b).1 (hN.mem b hb)
  exact absurd hk (by omega)
 |k+1,0,_,_,_,_,_,hj=>by omega
 |k+1,j+1,a,b,ha,hb,hk,hj=>by
  have h1:=(hV.pos a).1 (hN.mem a ha)
  have h2:=(hV.pos b).1 (hN.mem b hb)
  unfold dV
  by_cases hab:a=b
  ·rw[if_pos hab,if_pos hab]
  ·rw[if_neg hab,if_neg hab]
   by_cases hlt:at_ b<at_ a
   ·rw[if_pos hlt,if_pos hlt]
    have ha0:a≠0:=fun e=>by rw[e,hV.zero] at hlt;omega
    obtain ⟨g1,g2,g3⟩:=hN.near a ha0 ha
    exact lh hV hN k j (N a) b g2 hb (by omega) (by omega)
   ·rw[if_neg hlt,if_neg hlt]
    have hlt2:at_ a<at_ b:=by
     have:at_ a≠at_ b:=fun e=>hab (hV.inj a b (hN.mem a ha) (hN.mem b hb) e)
     omega
    have hb0:b≠0:=fun e=>by rw[e,hV.zero] at hlt2;omega
    obtain ⟨g1,g2,g3⟩:=hN.near b hb0 hb
    exact lh hV hN k j a (N b) ha g2 (by omega) (by omega)
def fX (N at_:Int→Int) (K:Nat):List Int→Int→Int
 |[],m=>m
 |p::ps,m=>fX N at_ K ps (if at_ p=-1∨N p=-1 then m else if m=-1 then p else dV N at_ K m p)
theorem pp (hV:rn S at_ V) (hN:iF S at_ V N) {K:Nat} (hK:∀a b,a∈V→b∈V→at_ a+at_ b<K):∀(ps:List Int) (m:Int),N m≠-1 →
  N (fX N at_ K ps m)≠-1∧∀x,gz N (fX N at_ K ps m) x↔gz N m x∧∀p∈ps,N p≠-1→gz N p x
 |[],m,hm=>⟨hm,fun x=>by simp[fX]⟩
 |p::ps,m,hm=>by
  unfold fX
  by_cases hp:at_ p=-1∨N p=-1
  ·rw[if_pos hp]
   have hp1:N p=-1:=by
    rcases hp with hp|hp
    ·exact Classical.byContradiction fun h=>by have:=(hV.pos p).1 (hN.mem p h);omega
    ·exact hp
   obtain ⟨i1,i2⟩:=pp hV hN hK ps m hm
   refine ⟨i1,fun x=>(i2 x).trans ⟨fun h=>⟨h.1,fun q hq hqn=>?_⟩,fun h=>⟨h.1,fun q hq=>h.2 q (.tail _ hq)⟩⟩⟩
   rcases List.mem_cons.1 hq with rfl|hq
   ·exact absurd hp1 hqn
   ·exact h.2 q hq hqn
  ·rw[if_neg hp]
   have hp1:N p≠-1:=fun e=>hp (.inr e)
   have hm0:m≠-1:=fun e=>by
    have h1:=hV.nn m (hN.mem m hm)
    omega
   rw[if_neg hm0]
   obtain ⟨j1,j2⟩:=mw hV hN K m p hm hp1 (hK _ _ (hN.mem _ hm) (hN.mem _ hp1))
   obtain ⟨i1,i2⟩:=pp hV hN hK ps _ j1
   refine ⟨i1,fun x=>(i2 x).trans ⟨fun h=>⟨((j2 x).1 h.1).1,fun q hq hqn=>?_⟩,fun h=>⟨(j2 x).2 ⟨h.1,h.2 p (.head _) hp1⟩,fun q hq=>h.2 q (.tail _ hq)⟩⟩⟩
   rcases List.mem_cons.1 hq with rfl|hq
   ·exact ((j2 x).1 h.1).2
   ·exact h.2 q hq hqn
theorem se (hV:rn S at_ V) (hN:iF S at_ V N) {K:Nat} (hK:∀a b,a∈V→b∈V→at_ a+at_ b<K):∀(ps:List Int),(∃p∈ps,N p≠-1) →
  N (fX N at_ K ps (-1))≠-1∧∀x,gz N (fX N at_ K ps (-1)) x↔∀p∈ps,N p≠-1→gz N p x
 |[],h=>by obtain ⟨_,h,_⟩:=h;cases h
 |p::ps,h=>by
  unfold fX
  by_cases hp:at_ p=-1∨N p=-1
  ·rw[if_pos hp]
   have hp1:N p=-1:=by
    rcases hp with hp|hp
    ·exact Classical.byContradiction fun h=>by have:=(hV.pos p).1 (hN.mem p h);omega
    ·exact hp
   obtain ⟨i1,i2⟩:=se hV hN hK ps (by
    obtain ⟨q,hq,hqn⟩:=h
    rcases List.mem_cons.1 hq with rfl|hq
    ·exact absurd hp1 hqn
    ·exact ⟨q,hq,hqn⟩)
   refine ⟨i1,fun x=>(i2 x).trans ⟨fun h q hq hqn=>?_,fun h q hq=>h q (.tail _ hq)⟩⟩
   rcases List.mem_cons.1 hq with rfl|hq
   ·exact absurd hp1 hqn
   ·exact h q hq hqn
  ·rw[if_neg hp,if_pos rfl]
   have hp1:N p≠-1:=fun e=>hp (.inr e)
   obtain ⟨i1,i2⟩:=pp hV hN hK ps p hp1
   refine ⟨i1,fun x=>(i2 x).trans ⟨fun h q hq hqn=>?_,fun h=>⟨h p (.head _) hp1,fun q hq=>h q (.tail _ hq)⟩⟩⟩
   rcases List.mem_cons.1 hq with rfl|hq
   ·exact h.1
   ·exact h.2 q hq hqn
def iG (N:Int→Int) (b m:Int):Int→Int:=fun x=>if x=b then m else N x
theorem gQ (N:Int→Int) (b m:Int):iG N b m b=m:=by simp[iG]
theorem eH {N:Int→Int} {b m x:Int} (h:x≠b):iG N b m x=N x:=by simp[iG,h]
structure ki (S:Int→List Int) (at_:Int→Int) (V:List Int) (N:Int→Int) (b m:Int):Prop where
 mem:b∈V
 ne:b≠0
 has:N m≠-1
 anc:∀x,gz N m x↔∀p,b∈S p→N p≠-1→gz N p x
 fwd:∃p,b∈S p∧N p≠-1∧at_ p<at_ b
variable {b m:Int}
theorem ki.lt (hN:iF S at_ V N) (h:ki S at_ V N b m):at_ m<at_ b:=by
 obtain ⟨p,h1,h2,h3⟩:=h.fwd
 have:=(hN.anc h2 ((h.anc m).1 (.refl _) p h1 h2)).2.1
 omega
theorem ki.mne (hN:iF S at_ V N) (h:ki S at_ V N b m):m≠b:=fun e=>by have:=h.lt hN;rw[e] at this;omega
theorem yR (hN:iF S at_ V N) {x a:Int} (hx:N x≠-1) (hlt:at_ x<at_ b):gz (iG N b m) x a↔gz N x a:=by
 constructor
 ·intro h
  induction h with
  |refl=>exact .refl _
  |@up x a h1 h2 h3 ih=>
   have hne:x≠b:=fun e=>by rw[e] at hlt;omega
   rw[eH hne] at h2 h3 ih
   have:=hN.near x h1 hx
   exact .up h1 hx (ih this.2.1 (by omega))
 ·intro h
  induction h with
  |refl=>exact .refl _
  |@up x a h1 h2 h3 ih=>
   have hne:x≠b:=fun e=>by rw[e] at hlt;omega
   have:=hN.near x h1 hx
   exact .up h1 (by rw[eH hne];exact hx) (by rw[eH hne];exact ih this.2.1 (by omega))
theorem Gm {x a:Int} (h:gz N x a):gz (iG N b m) x a∨(gz (iG N b m) x b∧gz N x b∧gz N b a):=by
 induction h with
 |refl=>exact .inl (.refl _)
 |@up x a h1 h2 h3 ih=>
  by_cases hxb:x=b
  ·subst hxb;exact .inr ⟨.refl _,.refl _,.up h1 h2 h3⟩
  ·rcases ih with h|⟨h,h',h''⟩
   ·exact .inl (.up h1 (by rw[eH hxb];exact h2) (by rw[eH hxb];exact h))
   ·exact .inr ⟨.up h1 (by rw[eH hxb];exact h2) (by rw[eH hxb];exact h),.up h1 h2 h',h''⟩
theorem CB {x a:Int} (h:gz (iG N b m) x a):gz N x a∨(gz N x b∧gz (iG N b m) b a):=by
 induction h with
 |refl=>exact .inl (.refl _)
 |@up x a h1 h2 h3 ih=>
  by_cases hxb:x=b
  ·subst hxb;exact .inr ⟨.refl _,.up h1 h2 h3⟩
  ·rw[eH hxb] at h2 ih
   rcases ih with h|⟨h,h'⟩
   ·exact .inl (.up h1 h2 h)
   ·exact .inr ⟨.up h1 h2 h,h'⟩
theorem ki.up (hV:rn S at_ V) (hN:iF S at_ V N) (h:ki S at_ V N b m) {a:Int}:gz (iG N b m) b a↔a=b∨gz N m a:=by
 have hl:=h.lt hN
 have hm1:m≠-1:=fun e=>by have:=hV.nn m (hN.mem m h.has);omega
 constructor
 ·intro ha
  rcases ha.cases' with e|⟨_,_,h3⟩
  ·exact .inl e
  ·rw[gQ] at h3;exact .inr ((yR hN h.has hl).1 h3)
 ·rintro (e|h3)
  ·subst e;exact .refl _
  ·exact .up h.ne (by rw[gQ];exact hm1) (by rw[gQ];exact (yR hN h.has hl).2 h3)
theorem iF.set (hV:rn S at_ V) (hN:iF S at_ V N) (h:ki S at_ V N b m):iF S at_ V (iG N b m):=by
 have hl:=h.lt hN
 have hmb:=h.mne hN
 have hm1:m≠-1:=fun e=>by have:=hV.nn m (hN.mem m h.has);omega
 have hset:∀x,N x≠-1→iG N b m x≠-1:=fun x hx=>by
  unfold iG;split
  ·exact hm1
  ·exact hx
 refine ⟨by rw[eH h.ne.symm];exact hN.zero,fun x hx=>?_,fun x h0 hx=>?_,fun x h0 hx=>?_,fun x d hx hd=>?_⟩
 ·by_cases e:x=b
  ·subst e;exact h.mem
  ·rw[eH e] at hx;exact hN.mem x hx
 ·by_cases e:x=b
  ·subst e;rw[gQ];exact ⟨hN.mem m h.has,hset m h.has,hl⟩
  ·rw[eH e] at hx ⊢
   have:=hN.near x h0 hx
   exact ⟨this.1,hset _ this.2.1,this.2.2⟩
 ·by_cases e:x=b
  ·subst e;rw[gQ]
   obtain ⟨p,h1,h2,h3⟩:=h.fwd
   have:=(hN.anc h2 ((h.anc m).1 (.refl _) p h1 h2)).2.2
   exact .step this h1 (by omega)
  ·rw[eH e] at hx ⊢;exact hN.path x h0 hx
 ·have hb:∀d,gJ S d b→gz (iG N b m) b d:=fun d hd=>(h.up hV hN).2 (by
   by_cases e:d=b
   ·exact .inl e
   ·exact .inr ((h.anc d).2 fun p hp hpn=>hN.dom p d hpn (hd.pred ((hV.mem p).1 (hN.mem p hpn)) hp e)))
  by_cases e:x=b
  ·subst e;exact hb d hd
  ·rw[eH e] at hx
   rcases Gm (b:=b) (m:=m) (hN.dom x d hx hd) with h1|⟨h1,h2,h3⟩
   ·exact h1
   ·refine h1.trans (hb d ?_)
    have hx2:=hN.anc hx h2
    by_cases hdb:d=b
    ·subst hdb;exact .refl ((hV.mem d).1 h.mem)
    ·refine ⟨(hV.mem b).1 h.mem,fun hw=>?_⟩
     have hlt:at_ d<at_ b:=by
      rcases Int.lt_or_le (at_ d) (at_ b) with g|g
      ·exact g
      ·exact absurd (hN.antisymm hV hx2.1 h3 g) hdb
     exact hd.2 (hw.trans (hx2.2.2.mono fun y hy e=>by subst e;omega))
end
end Go.Proofs.YtdilpodccjlkgaaGreatDoor
namespace Go.Proofs.YtdilpodccjlkgaaGreatDoor
open Go.Proofs.Tryz
section
variable {S:Int→List Int} {at_:Int→Int} {V:List Int} {N:Int→Int} {b m:Int}
theorem gD.le {p:Int→Prop} {r x:Int} {k j:Nat} (h:gD S at_ p r k x) (hj:k≤j):gD S at_ p r j x:=by
 induction h generalizing j with
 |refl h=>exact .refl h
 |fwd _ h1 h2 h3 ih=>exact .fwd (ih hj) h1 h2 h3
 |back _ h1 h2 ih=>
  obtain ⟨i,rfl⟩:∃i,j=i+1:=⟨j - 1,by omega⟩
  exact .back (ih (by omega)) h1 h2
theorem gD.by_ {p:Int→Prop} {r x:Int} {k:Nat} (b:Int) (h:gD S at_ p r k x):gD S at_ (fun y=>p y∧y≠b) r k x∨gD S at_ p r k b:=by
 induction h with
 |@refl k h=>
  by_cases e:r=b
  ·subst e;exact .inr (.refl h)
  ·exact .inl (.refl ⟨h,e⟩)
 |@fwd k c d h0 h1 h2 h3 ih=>
  rcases ih with ih|ih
  ·by_cases e:d=b
   ·subst e;exact .inr (.fwd h0 h1 h2 h3)
   ·exact .inl (.fwd ih h1 h2 ⟨h3,e⟩)
  ·exact .inr ih
 |@back k c d h0 h1 h2 ih=>
  rcases ih with ih|ih
  ·by_cases e:d=b
   ·subst e;exact .inr (.back h0 h1 h2)
   ·exact .inl (.back ih h1 ⟨h2,e⟩)
  ·exact .inr (ih.le (by omega))
theorem gD.mono {p q:Int→Prop} {r x:Int} {k:Nat} (hpq:∀y,p y→q y) (h:gD S at_ p r k x):gD S at_ q r k x:=by
 induction h with
 |refl h=>exact .refl (hpq _ h)
 |fwd _ h1 h2 h3 ih=>exact .fwd ih h1 h2 (hpq _ h3)
 |back _ h1 h2 ih=>exact .back ih h1 (hpq _ h2)
def PB (S:Int→List Int) (at_:Int→Int) (N:Int→Int) (j:Nat) (x:Int):Prop:=∀i,i<j→∀a,gz N x a→¬gD S at_ (fun y=>y≠a) 0 i x
theorem PB.zero (x:Int):PB S at_ N 0 x:=fun i hi=>by omega
theorem PB.root (j:Nat):PB S at_ N j 0:=fun i _ a ha hw=>by
 rcases ha.cases' with rfl|⟨h,_,_⟩
 ·exact hw.end_ rfl
 ·exact h rfl
structure mx (S:Int→List Int) (at_:Int→Int) (V:List Int) (N:Int→Int) (j:Nat) (t:Int):Prop where
 inv:iF S at_ V N
 has:∀x,x∈V→(at_ x<t∨1≤j)→N x≠-1
 done:∀x,x∈V→at_ x<t→PB S at_ N (j+1) x
 all:∀x,x∈V→PB S at_ N j x
theorem CC (hV:rn S at_ V) {p:Int→Prop} {x:Int} {k:Nat} (h:gD S at_ p 0 k x):x∈V:=(hV.mem x).2 (h.way.mono fun _ _=>trivial)
theorem mx.self (hV:rn S at_ V) {j:Nat} (h:mx S at_ V N j (at_ b)) (hM:ki S at_ V N b m):PB S at_ (iG N b m) (j+1) b:=fun i hi a ha hw=>by
 rcases (hM.up hV h.inv).1 ha with e|ha
 ·exact hw.end_ e.symm
 ·cases hw with
  |refl _=>exact hM.ne rfl
  |@fwd _ p _ h1 h2 h3 h4=>
   have hp:=CC hV h1
   have hpn:=h.has p hp (.inl h3)
   exact h.done p hp h3 i hi a ((hM.anc a).1 ha p h2 hpn) h1
  |@back k p _ h1 h2 h3=>
   have hp:=CC hV h1
   have hpn:=h.has p hp (.inr (by omega))
   exact h.all p hp k (by omega) a ((hM.anc a).1 ha p h2 hpn) h1
theorem mx.other (hV:rn S at_ V) {j:Nat} (h:mx S at_ V N j (at_ b)) (hM:ki S at_ V N b m) {x:Int} {k:Nat} (hk:k≤j+1) (hx:PB S at_ N k x):PB S at_ (iG N b m) k x:=fun i hi a ha hw=>by
 rcases CB ha with h1|⟨h1,h2⟩
 ·exact hx i hi a h1 hw
 ·rcases hw.by_ b with h3|h3
  ·exact hx i hi b h1 (h3.mono fun y hy=>hy.2)
  ·exact h.self hV hM i (by omega) a h2 h3
theorem mx.step (hV:rn S at_ V) {j:Nat} (h:mx S at_ V N j (at_ b)) (hM:ki S at_ V N b m):mx S at_ V (iG N b m) j (at_ b+1):=by
 have hm1:m≠-1:=fun e=>by have:=hV.nn m (h.inv.mem m hM.has);omega
 refine ⟨h.inv.set hV hM,fun x hx hc=>?_,fun x hx hc=>?_,fun x hx=>h.other hV hM (by omega) (h.all x hx)⟩
 ·by_cases e:x=b
  ·subst e;rw[gQ];exact hm1
  ·rw[eH e]
   refine h.has x hx ?_
   rcases hc with hc|hc
   ·left
    have:at_ x≠at_ b:=fun e2=>e (hV.inj x b hx hM.mem e2)
    omega
   ·exact .inr hc
 ·by_cases e:x=b
  ·subst e;exact h.self hV hM
  ·have:at_ x≠at_ b:=fun e2=>e (hV.inj x b hx hM.mem e2)
   exact h.other hV hM (Nat.le_refl _) (h.done x hx (by omega))
theorem mx.next (hV:rn S at_ V) {j:Nat} {t:Int} (h:mx S at_ V N j t) (ht:∀x,x∈V→at_ x<t):mx S at_ V N (j+1) 1:=
 ⟨h.inv,fun x hx _=>h.has x hx (.inl (ht x hx)),fun x hx h1=>by
  have:x=0:=hV.inj x 0 hx hV.zmem (by rw[hV.zero];have:=(hV.pos x).1 hx;omega)
  subst this;exact PB.root _,fun x hx=>h.done x hx (ht x hx)⟩
theorem mx.first (hV:rn S at_ V):mx S at_ V (fun x=>if x=0 then 0 else -1) 0 1:=by
 have hN:iF S at_ V (fun x=>if x=0 then 0 else -1):=by
  refine ⟨by simp,fun x hx=>?_,fun x h0 hx=>?_,fun x h0 hx=>?_,fun x d hx hd=>?_⟩
  ·by_cases e:x=0
   ·rw[e];exact hV.zmem
   ·simp[e] at hx
  ·simp[h0] at hx
  ·simp[h0] at hx
  ·by_cases e:x=0
   ·subst e
    have:d=0:=Classical.byContradiction fun hd0=>hd.2 (.refl (fun e=>hd0 e.symm))
    subst this;exact .refl _
   ·simp[e] at hx
 refine ⟨hN,fun x hx hc=>?_,fun x hx h1=>?_,fun x hx=>PB.zero x⟩
 ·rcases hc with hc|hc
  ·have:x=0:=hV.inj x 0 hx hV.zmem (by rw[hV.zero];have:=(hV.pos x).1 hx;omega)
   simp[this]
  ·omega
 ·have:x=0:=hV.inj x 0 hx hV.zmem (by rw[hV.zero];have:=(hV.pos x).1 hx;omega)
  subst this;exact PB.root _
structure kj (S:Int→List Int) (at_:Int→Int) (V:List Int) (N:Int→Int):Prop where
 inv:iF S at_ V N
 has:∀x,x∈V→N x≠-1
 anc:∀x a,x∈V→(gz N x a↔gJ S a x)
theorem mx.exact (hV:rn S at_ V) {j:Nat} {t:Int} (h:mx S at_ V N j t) (hj:V.length≤j):kj S at_ V N:=by
 have h1:1≤j:=by
  have:0<V.length:=List.length_pos_of_mem hV.zmem
  omega
 refine ⟨h.inv,fun x hx=>h.has x hx (.inr h1),fun x a hx=>⟨fun ha=>?_,fun hd=>h.inv.dom x a (h.has x hx (.inr h1)) hd⟩⟩
 refine ⟨(hV.mem x).1 hx,fun hw=>?_⟩
 obtain ⟨k,hk,hb⟩:=jG.short at_ V.length V (fun y=>y≠a∧jG S (fun y=>y≠a) 0 y) 0 x rfl (fun y hy=>(hV.mem y).2 (hy.2.mono fun _ _=>trivial)) hw.self
 exact h.all x hx k (by omega) a ha (hb.mono fun y hy=>hy.1)
theorem kj.still (hV:rn S at_ V) (h:kj S at_ V N) (hM:ki S at_ V N b m):m=N b:=by
 have hb:=h.has b hM.mem
 obtain ⟨g1,g2,g3⟩:=h.inv.near b hM.ne hb
 have hl:=hM.lt h.inv
 have h1:gz N m (N b):=(hM.anc _).2 fun p hp hpn=>by
  have hd:gJ S (N b) b:=(h.anc b (N b) hM.mem).1 (.up hM.ne hb (.refl _))
  have hp2:=h.inv.mem p hpn
  exact (h.anc p (N b) hp2).2 (hd.pred ((hV.mem p).1 hp2) hp (fun e=>by rw[e] at g3;omega))
 have h2:gz N b m:=(h.anc b m hM.mem).2 (gJ.of_preds ((hV.mem b).1 hM.mem) hM.ne fun p hp he=>by
  have hp2:=(hV.mem p).2 hp
  exact (h.anc p m hp2).1 ((hM.anc m).1 (.refl _) p he (h.has p hp2)))
 rcases h2.cases' with e|⟨_,_,h3⟩
 ·rw[e] at hl;omega
 ·have l1:=(h.inv.anc hM.has h1).2.1
  exact h.inv.antisymm hV g2 h3 (by omega)
end
end Go.Proofs.YtdilpodccjlkgaaGreatDoor
namespace Go.Proofs.YtdilpodccjlkgaaGreatDoor
open Go.Proofs.Tryz
def gi (l:List Int) (x:Int):Int:=if 0≤x then (l[x.toNat]?).getD (-1) else -1
theorem CD (l:List Int) (k:Nat):gi l (k:Int)=(l[k]?).getD (-1):=by unfold gi;rw[if_pos (by omega)];rfl
theorem f5 {l:List Int} {x:Int} (h0:0≤x) (h:x.toNat<l.length):l[x.toNat]?=some (gi l x):=by
 unfold gi;rw[if_pos h0,qt h];rfl
theorem tc {l:List Int} {b:Int} (h0:0≤b) (h:b.toNat<l.length) (m:Int):gi (l.set b.toNat m)=iG (gi l) b m:=by
 funext x
 unfold gi iG
 by_cases hx:0≤x
 ·rw[if_pos hx]
  by_cases e:x=b
  ·subst e;rw[if_pos rfl,List.getElem?_set_self h];rfl
  ·rw[if_neg e,List.getElem?_set_ne (by omega)];dsimp only;rw[if_pos hx]
 ·rw[if_neg hx,if_neg (by omega)];dsimp only;rw[if_neg hx]
theorem wZ {l:List Int} {x:Int} (h:x<0∨(l.length:Int)≤x):gi l x=-1:=by
 unfold gi
 split
 ·rw[List.getElem?_eq_none (by omega)];rfl
 ·rfl
theorem Gn {l m:List Int} (hl:l.length=m.length) (h:∀x,gi l x=gi m x):l=m:=by
 refine List.ext_getElem hl fun k h1 h2=>?_
 have:=h (k:Int)
 rw[CD,CD,qt h1,qt h2] at this
 simpa using this
theorem uG {l:List Int} {b:Int} (h0:0≤b):l.set b.toNat (gi l b)=l:=by
 by_cases h:b.toNat<l.length
 ·have:=f5 h0 h
  refine List.ext_getElem? fun k=>?_
  by_cases e:k=b.toNat
  ·subst e;rw[List.getElem?_set_self h,this]
  ·rw[List.getElem?_set_ne (fun e2=>e e2.symm)]
 ·exact List.set_eq_of_length_le (by omega)
def dY (n:Nat) (V:List Int):List Int:=(V.zipIdx).foldl (fun l p=>l.set p.1.toNat (p.2:Int)) (List.replicate n (-1))
def iQ (at_:List Int) (K:Nat) (preds:Int→List Int) (l:List Int) (b:Int):List Int:=l.set b.toNat (fX (gi l) (gi at_) K (preds b) (-1))
def sf (at_:List Int) (K:Nat) (preds:Int→List Int) (V:List Int) (l:List Int):List Int:=V.tail.foldl (iQ at_ K preds) l
def passN (at_:List Int) (K:Nat) (preds:Int→List Int) (V:List Int) (l:List Int):Nat→List Int
 |0=>l
 |k+1=>sf at_ K preds V (passN at_ K preds V l k)
def fu (n:Nat):List Int:=(List.replicate n (-1)).set 0 0
structure mZ (S:Int→List Int) (at_:List Int) (V:List Int) (preds:Int→List Int) (n:Nat):Prop where
 ord:rn S (gi at_) V
 lt:∀b∈V,b<n
 row:∀(k:Nat),k<V.length→gi at_ (V[k]?.getD 0)=k
 preds:∀b∈V,∀p,p∈preds b↔b∈S p
section
variable {S:Int→List Int} {at_ V:List Int} {preds:Int→List Int} {n:Nat}
theorem mZ.pos (h:mZ S at_ V preds n):0<V.length:=List.length_pos_of_mem h.ord.zmem
theorem mZ.at_lt (h:mZ S at_ V preds n) {b:Int} (hb:b∈V):∃k,k<V.length∧V[k]?=some b∧gi at_ b=k:=by
 obtain ⟨k,hk,e⟩:=List.mem_iff_getElem.1 hb
 have:=h.row k hk
 rw[qt hk] at this
 exact ⟨k,hk,by rw[qt hk,e],by rw[←e];exact this⟩
theorem mZ.K (h:mZ S at_ V preds n):∀a b,a∈V→b∈V→gi at_ a+gi at_ b<((2*V.length:Nat):Int):=fun a b ha hb=>by
 obtain ⟨j,hj,_,e1⟩:=h.at_lt ha
 obtain ⟨k,hk,_,e2⟩:=h.at_lt hb
 rw[e1,e2];omega
theorem mZ.meets (h:mZ S at_ V preds n) {l:List Int} {j:Nat} {b:Int} (hR:mx S (gi at_) V (gi l) j (gi at_ b)) (hb:b∈V) (h0:b≠0):ki S (gi at_) V (gi l) b (fX (gi l) (gi at_) (2*V.length) (preds b) (-1)):=by
 obtain ⟨p,h1,h2,h3⟩:=h.ord.fwd b hb h0
 have hp:=hR.has p h1 (.inl h3)
 obtain ⟨g1,g2⟩:=se h.ord hR.inv h.K (preds b) ⟨p,(h.preds b hb p).2 h2,hp⟩
 exact ⟨hb,h0,g1,fun x=>(g2 x).trans ⟨fun hh q hq=>hh q ((h.preds b hb q).2 hq),fun hh q hq=>hh q ((h.preds b hb q).1 hq)⟩,p,h2,hp,h3⟩
theorem mZ.step (h:mZ S at_ V preds n) {l:List Int} {j k:Nat} {b:Int} (hl:l.length=n) (hk:0<k) (hb:V[k]?=some b) (hR:mx S (gi at_) V (gi l) j k) :
  mx S (gi at_) V (gi (iQ at_ (2*V.length) preds l b)) j ((k+1:Nat):Int)∧(V.length≤j→iQ at_ (2*V.length) preds l b=l)∧gi at_ b=k∧b∈V∧b≠0:=by
 obtain ⟨hk2,e⟩:=List.getElem?_eq_some_iff.1 hb
 have hbm:b∈V:=e▸qx hk2
 have hat:gi at_ b=k:=by have:=h.row k hk2;rw[hb] at this;exact this
 have hb0:b≠0:=fun e2=>by rw[e2,h.ord.zero] at hat;omega
 have hnn:=h.ord.nn b hbm
 have hblt:=h.lt b hbm
 rw[←hat] at hR
 have hM:=h.meets hR hbm hb0
 have hset:=tc (l:=l) hnn (by omega) (fX (gi l) (gi at_) (2*V.length) (preds b) (-1))
 refine ⟨?_,fun hj=>?_,hat,hbm,hb0⟩
 ·have:=hR.step h.ord hM
  unfold iQ
  rw[hset]
  rw[hat] at this
  exact this
 ·have:=(hR.exact h.ord hj).still h.ord hM
  unfold iQ
  rw[this,uG hnn]
theorem sg (K:Nat) (l:List Int) (b:Int):(iQ at_ K preds l b).length=l.length:=by unfold iQ;rw[List.length_set]
theorem pq (K:Nat):∀(bs:List Int) (l:List Int),(bs.foldl (iQ at_ K preds) l).length=l.length
 |[],_=>rfl
 |b::bs,l=>by rw[List.foldl_cons,pq K bs,sg]
theorem mZ.fold (h:mZ S at_ V preds n) {j:Nat}:∀(bs:List Int) (k:Nat) (l:List Int),l.length=n→0<k→V.drop k=bs→mx S (gi at_) V (gi l) j k →
  mx S (gi at_) V (gi (bs.foldl (iQ at_ (2*V.length) preds) l)) j ((max k V.length:Nat):Int)
 |[],k,l,hl,hk,hd,hR=>by
  have:V.length≤k:=by have:=congrArg List.length hd;simp at this;omega
  rw[Nat.max_eq_left this];exact hR
 |b::bs,k,l,hl,hk,hd,hR=>by
  have hk2:k<V.length:=by have:=congrArg List.length hd;simp at this;omega
  have hb:V[k]?=some b:=by have:=congrArg (fun z:List Int=>z[0]?) hd;simpa using this
  have:=mZ.fold h bs (k+1) _ (by rw[sg,hl]) (by omega) (by rw[←List.drop_drop,hd];rfl) (h.step hl hk hb hR).1
  rw[List.foldl_cons]
  rwa [show max (k+1) V.length=max k V.length by omega] at this
theorem mZ.pass (h:mZ S at_ V preds n) {j:Nat} {l:List Int} (hl:l.length=n) (hR:mx S (gi at_) V (gi l) j 1):mx S (gi at_) V (gi (sf at_ (2*V.length) preds V l)) (j+1) 1:=by
 have h1:=h.fold (j:=j) V.tail 1 l hl (by omega) (by rw[List.drop_one]) hR
 refine h1.next h.ord fun x hx=>?_
 obtain ⟨k,hk,_,e⟩:=h.at_lt hx
 rw[e]
 have:=h.pos
 omega
theorem AM (K:Nat) (l:List Int):(sf at_ K preds V l).length=l.length:=pq K _ _
theorem lj (K:Nat) (l:List Int):∀k,(passN at_ K preds V l k).length=l.length
 |0=>rfl
 |k+1=>by rw[passN,AM,lj K l k]
theorem mZ.fixed (h:mZ S at_ V preds n) {j:Nat} {l:List Int} (hl:l.length=n) (hR:mx S (gi at_) V (gi l) j 1) (hf:sf at_ (2*V.length) preds V l=l):kj S (gi at_) V (gi l):=by
 have:∀i,mx S (gi at_) V (gi l) (j+i) 1:=fun i=>by
  induction i with
  |zero=>exact hR
  |succ i ih=>have:=h.pass hl ih;rw[hf] at this;exact this
 exact (this V.length).exact h.ord (by omega)
theorem my (hn:0<n):gi (fu n)=fun x=>if x=0 then 0 else -1:=by
 funext x
 unfold fu
 have:=tc (l:=List.replicate n (-1)) (b:=0) (by omega) (by simp;exact hn) 0
 rw[show (0:Int).toNat=0 from rfl] at this
 rw[this]
 unfold iG
 split
 ·rfl
 ·unfold gi
  split
  ·rw[List.getElem?_replicate];split<;>rfl
  ·rfl
theorem mZ.npos (h:mZ S at_ V preds n):0<n:=by have:=h.lt 0 h.ord.zmem;omega
theorem mZ.begin (h:mZ S at_ V preds n):mx S (gi at_) V (gi (fu n)) 0 1:=by
 rw[my h.npos];exact mx.first h.ord
theorem mZ.passN (h:mZ S at_ V preds n):∀k,mx S (gi at_) V (gi (passN at_ (2*V.length) preds V (fu n) k)) k 1
 |0=>h.begin
 |k+1=>h.pass (by rw[lj];simp[fu]) (h.passN k)
def si (at_:List Int) (V:List Int) (preds:Int→List Int) (n:Nat):List Int:=Go.Proofs.YtdilpodccjlkgaaGreatDoor.passN at_ (2*V.length) preds V (fu n) V.length
theorem mZ.near (h:mZ S at_ V preds n):kj S (gi at_) V (gi (si at_ V preds n)):=(h.passN V.length).exact h.ord (Nat.le_refl _)
theorem kj.unique {at_:Int→Int} {N M:Int→Int} (hV:rn S at_ V) (h1:kj S at_ V N) (h2:kj S at_ V M):N=M:=by
 funext x
 by_cases hx:x∈V
 ·by_cases h0:x=0
  ·rw[h0,h1.inv.zero,h2.inv.zero]
  ·have key:∀{N M:Int→Int},kj S at_ V N→kj S at_ V M→at_ (N x)≤at_ (M x):=fun {N M} h1 h2=>by
    obtain ⟨g1,g2,g3⟩:=h1.inv.near x h0 (h1.has x hx)
    have hd:=(h1.anc x (N x) hx).1 (.up h0 (h1.has x hx) (.refl _))
    rcases ((h2.anc x (N x) hx).2 hd).cases' with e|⟨_,_,h3⟩
    ·rw[e] at g3;omega
    ·obtain ⟨k1,k2,k3⟩:=h2.inv.near x h0 (h2.has x hx)
     exact (h2.inv.anc k2 h3).2.1
   have e1:=key h1 h2
   have e2:=key h2 h1
   exact hV.inj _ _ (h1.inv.near x h0 (h1.has x hx)).1 (h2.inv.near x h0 (h2.has x hx)).1 (by omega)
 ·have e1:N x=-1:=Classical.byContradiction fun h=>hx (h1.inv.mem x h)
  have e2:M x=-1:=Classical.byContradiction fun h=>hx (h2.inv.mem x h)
  rw[e1,e2]
theorem mZ.near_eq (h:mZ S at_ V preds n) {l:List Int} (hl:l.length=n) (hE:kj S (gi at_) V (gi l)):l=si at_ V preds n:=
 Gn (by rw[hl];unfold si;rw[lj];simp[fu]) fun x=>congrFun (hE.unique h.ord h.near) x
end
end Go.Proofs.YtdilpodccjlkgaaGreatDoor
namespace Go.Proofs.YtdilpodccjlkgaaGreatDoor
open Go.Proofs.Tryz
abbrev EA:=List Bool × List Int × List (Int × Nat)
def gb (l:List Bool) (x:Int):Bool:=(l[x.toNat]?).getD false
def ge (l:List Int) (k:Nat):Int:=(l[k]?).getD 0
def sj (E:Int→List Int):EA→EA
 |(seen,out,[])=>(seen,out,[])
 |(seen,out,(b,k)::r)=>if k=(E b).length then (seen,out++[b],r) else
   if gb seen (ge (E b) k) then (seen,out,(b,k+1)::r) else (seen.set (ge (E b) k).toNat true,out,(ge (E b) k,0)::(b,k+1)::r)
theorem lX (E:Int→List Int) (seen:List Bool) (out:List Int) (b:Int) (k:Nat) (r:List (Int × Nat)):sj E (seen,out,(b,k)::r)=if k=(E b).length then (seen,out++[b],r) else
   if gb seen (ge (E b) k) then (seen,out,(b,k+1)::r) else (seen.set (ge (E b) k).toNat true,out,(ge (E b) k,0)::(b,k+1)::r):=rfl
def pt (n:Nat):EA:=((List.replicate n false).set 0 true,[],[(0,0)])
def eY (E:Int→List Int) (n:Nat):Nat→EA
 |0=>pt n
 |k+1=>sj E (eY E n k)
def aB (E:Int→List Int) (n:Nat):List Int:=(eY E n (4*n)).2.1.reverse
structure EOk (E:Int→List Int) (n:Nat):Prop where
 npos:0<n
 rng:∀b:Int,0≤b→b<n→∀c∈E b,0≤c∧c<n
 len:∀b,(E b).length≤2
def CE (E:Int→List Int):List Int→List Int→Prop
 |[],_=>True
 |v::r,s=>(v=0∨∃p,v∈E p∧(p∈r∨p∈s))∧CE E r s
structure rE (E:Int→List Int) (n:Nat) (x:EA):Prop where
 len:x.1.length=n
 rng:∀v,v∈x.2.1++x.2.2.map Prod.fst→0≤v∧v<n
 seen:∀v,0≤v→(gb x.1 v=true↔v∈x.2.1++x.2.2.map Prod.fst)
 nodup:(x.2.1++x.2.2.map Prod.fst).Nodup
 rch:∀v,v∈x.2.1++x.2.2.map Prod.fst→om E v
 done:∀b∈x.2.1,∀c∈E b,c∈x.2.1++x.2.2.map Prod.fst
 part:∀q∈x.2.2,q.2≤(E q.1).length∧∀i,i<q.2→ge (E q.1) i∈x.2.1++x.2.2.map Prod.fst
 led:CE E (x.2.1++x.2.2.map Prod.fst) []
 last:(x.2.1++x.2.2.map Prod.fst).getLast?=some 0
theorem yS {E:Int→List Int}:∀{l r s:List Int},CE E (l++r) s↔CE E l (r++s)∧CE E r s
 |[],r,s=>by simp[CE]
 |v::l,r,s=>by
  rw[List.cons_append,CE,CE,yS (l:=l)]
  constructor
  ·rintro ⟨h,h1,h2⟩
   refine ⟨⟨?_,h1⟩,h2⟩
   rcases h with h|⟨p,h,h3⟩
   ·exact .inl h
   ·exact .inr ⟨p,h,by simp only[List.mem_append] at h3 ⊢;rcases h3 with (h3|h3)|h3<;>simp[h3]⟩
  ·rintro ⟨⟨h,h1⟩,h2⟩
   refine ⟨?_,h1,h2⟩
   rcases h with h|⟨p,h,h3⟩
   ·exact .inl h
   ·exact .inr ⟨p,h,by simp only[List.mem_append] at h3 ⊢;rcases h3 with h3|h3|h3<;>simp[h3]⟩
theorem CF {l:List Bool} {v:Int} (h0:0≤v) (hl:v.toNat<l.length) {x:Int} (hx:0≤x):gb (l.set v.toNat true) x=true↔x=v∨gb l x=true:=by
 unfold gb
 by_cases e:x=v
 ·subst e;rw[List.getElem?_set_self hl];simp
 ·rw[List.getElem?_set_ne (by omega)];simp[e]
theorem rE.begin {E:Int→List Int} {n:Nat} (hE:EOk E n):rE E n (pt n):=by
 have hn:=hE.npos
 refine ⟨by simp[pt],fun v hv=>?_,fun v hv=>?_,by simp[pt],fun v hv=>?_,fun b hb=>by simp[pt] at hb,fun q hq=>?_,⟨.inl rfl,trivial⟩,rfl⟩
 ·simp[pt] at hv;omega
 ·have:=CF (l:=List.replicate n false) (v:=0) (by omega) (by simp;exact hn) hv
  show gb ((List.replicate n false).set 0 true) v=true↔v∈[]++[0]
  rw[show (0:Int).toNat=0 from rfl] at this
  rw[this]
  have h2:gb (List.replicate n false) v=false:=by unfold gb;rw[List.getElem?_replicate];split<;>rfl
  simp[h2]
 ·simp[pt] at hv;subst hv;exact .refl trivial
 ·simp[pt] at hq;subst hq;exact ⟨qw _,fun i hi=>by omega⟩
theorem rE.step {E:Int→List Int} {n:Nat} (hE:EOk E n) {x:EA} (h:rE E n x):rE E n (sj E x):=by
 obtain ⟨seen,out,st⟩:=x
 cases st with
 |nil=>exact h
 |cons q r=>
  obtain ⟨b,k⟩:=q
  obtain ⟨hlen,hrng,hseen,hnd,hrch,hdone,hpart,hled,hlast⟩:=h
  dsimp only at hlen hrng hseen hnd hrch hdone hpart hled hlast
  rw[List.map_cons] at hrng hseen hnd hrch hdone hpart hled hlast
  have hb:=hpart (b,k) (.head _)
  dsimp only at hb
  rw[lX]
  by_cases hk:k=(E b).length
  ·rw[if_pos hk]
   have e:(out++[b])++r.map Prod.fst=out++b::r.map Prod.fst:=by simp
   refine ⟨hlen,?_,?_,?_,?_,?_,?_,?_,?_⟩<;>dsimp only<;>rw[e]
   ·exact hrng
   ·exact hseen
   ·exact hnd
   ·exact hrch
   ·intro c hc
    rcases List.mem_append.1 hc with hc|hc
    ·exact hdone c hc
    ·obtain rfl:=List.mem_singleton.1 hc
     intro d hd
     obtain ⟨i,hi,rfl⟩:=List.mem_iff_getElem.1 hd
     have:=hb.2 i (by omega)
     unfold ge at this
     rwa [qt hi] at this
   ·exact fun q hq=>hpart q (.tail _ hq)
   ·exact hled
   ·exact hlast
  ·rw[if_neg hk]
   have hk2:k<(E b).length:=by omega
   have hge:ge (E b) k=(E b)[k]:=by unfold ge;rw[qt hk2];rfl
   have hmem:ge (E b) k∈E b:=hge▸qx hk2
   obtain ⟨c,hc⟩:∃c,ge (E b) k=c:=⟨_,rfl⟩
   rw[hc] at hmem ⊢
   have hbr:=hrng b (by simp)
   have hcr:=hE.rng b hbr.1 hbr.2 c hmem
   by_cases hs:gb seen c=true
   ·rw[if_pos hs]
    refine ⟨hlen,?_,?_,?_,?_,?_,fun q hq=>?_,?_,?_⟩<;>dsimp only<;>rw[List.map_cons]
    ·exact hrng
    ·exact hseen
    ·exact hnd
    ·exact hrch
    ·exact hdone
    ·rcases List.mem_cons.1 hq with rfl|hq
     ·refine ⟨hk2,fun i hi=>?_⟩
      by_cases e:i=k
      ·subst e;dsimp only;rw[hc];exact (hseen c hcr.1).1 hs
      ·exact hb.2 i (by dsimp only at hi;omega)
     ·exact hpart q (.tail _ hq)
    ·exact hled
    ·exact hlast
   ·rw[if_neg hs]
    have hnm:c ∉ out++b::r.map Prod.fst:=fun hm=>hs ((hseen c hcr.1).2 hm)
    have hmm:∀v,v∈out++(c::b::r.map Prod.fst)↔v=c∨v∈out++b::r.map Prod.fst:=fun v=>by
     simp only[List.mem_append,List.mem_cons]
     constructor
     ·rintro (h|h|h|h)<;>simp[h]
     ·rintro (h|h|h|h)<;>simp[h]
    refine ⟨by dsimp only;rw[List.length_set];exact hlen,?_,fun v hv=>?_,?_,?_,?_,fun q hq=>?_,?_,?_⟩<;>dsimp only<;>rw[List.map_cons,List.map_cons]
    ·intro v hv
     rcases (hmm v).1 hv with rfl|hv
     ·exact hcr
     ·exact hrng v hv
    ·rw[CF hcr.1 (by omega) hv,hmm,hseen v hv]
    ·have:(out++c::b::r.map Prod.fst).Perm (c::(out++b::r.map Prod.fst)):=List.perm_middle
     rw[this.nodup_iff,List.nodup_cons]
     exact ⟨hnm,hnd⟩
    ·intro v hv
     rcases (hmm v).1 hv with rfl|hv
     ·exact .step (hrch b (by simp)) hmem trivial
     ·exact hrch v hv
    ·exact fun a ha d hd=>(hmm d).2 (.inr (hdone a ha d hd))
    ·rcases List.mem_cons.1 hq with rfl|hq
     ·exact ⟨qw _,fun i hi=>by dsimp only at hi;omega⟩
     ·rcases List.mem_cons.1 hq with rfl|hq
      ·refine ⟨hk2,fun i hi=>(hmm _).2 ?_⟩
       by_cases e:i=k
       ·subst e;left;exact hc
       ·exact .inr (hb.2 i (by dsimp only at hi;omega))
      ·exact ⟨(hpart q (.tail _ hq)).1,fun i hi=>(hmm _).2 (.inr ((hpart q (.tail _ hq)).2 i hi))⟩
    ·rw[yS] at hled ⊢
     refine ⟨?_,.inr ⟨b,hmem,.inl (.head _)⟩,hled.2⟩
     have weak:∀(l s t:List Int),(∀x∈s,x∈t)→CE E l s→CE E l t:=fun l s t hst=>by
      induction l with
      |nil=>exact fun _=>trivial
      |cons v l ih=>
       rintro ⟨h1,h2⟩
       refine ⟨?_,ih h2⟩
       rcases h1 with h1|⟨p,h1,h3⟩
       ·exact .inl h1
       ·exact .inr ⟨p,h1,h3.imp id (hst p)⟩
     exact weak _ _ _ (fun x hx=>by simp only[w6] at hx ⊢;exact .tail _ hx) hled.1
    ·rw[List.getLast?_append,List.getLast?_cons_cons]
     rw[List.getLast?_append] at hlast
     exact hlast
def mz (x:EA):Nat:=4*(x.1.filter (fun b=>!b)).length+(x.2.2.map fun q=>3 - q.2).sum
theorem jM:∀(l:List Bool) (i:Nat),l[i]?=some false→((l.set i true).filter (fun b=>!b)).length+1=(l.filter (fun b=>!b)).length
 |[],i,h=>by simp at h
 |b::l,0,h=>by simp at h;subst h;simp
 |b::l,i+1,h=>by
  have:=jM l i (by simpa using h)
  cases b<;>simp<;>omega
theorem rE.less {E:Int→List Int} {n:Nat} (hE:EOk E n) {x:EA} (h:rE E n x) (hs:x.2.2≠[]):mz (sj E x)<mz x:=by
 obtain ⟨seen,out,st⟩:=x
 cases st with
 |nil=>exact absurd rfl hs
 |cons q r=>
  obtain ⟨b,k⟩:=q
  have hb:=h.part (b,k) (.head _)
  have hl2:=hE.len b
  have hbr:=h.rng b (by simp)
  dsimp only at hb
  rw[lX]
  unfold mz
  by_cases hk:k=(E b).length
  ·rw[if_pos hk];simp;omega
  ·rw[if_neg hk]
   have hk2:k<(E b).length:=by omega
   have hge:ge (E b) k=(E b)[k]:=by unfold ge;rw[qt hk2];rfl
   have hcr:=hE.rng b hbr.1 hbr.2 _ (hge▸qx hk2)
   split
   ·simp;omega
   ·rename_i hg
    have hlt:(ge (E b) k).toNat<seen.length:=by have:=h.len;dsimp only at this;omega
    have:=jM seen (ge (E b) k).toNat (by
     unfold gb at hg
     rw[qt hlt] at hg ⊢
     simpa using hg)
    simp;omega
theorem m9 {E:Int→List Int} {x:EA} (h:x.2.2=[]):sj E x=x:=by
 obtain ⟨seen,out,st⟩:=x
 dsimp only at h
 subst h;rfl
section
variable {E:Int→List Int} {n:Nat} (hE:EOk E n)
include hE
theorem fj:∀k,rE E n (eY E n k)
 |0=>rE.begin hE
 |k+1=>(fj k).step hE
theorem Gp:mz (pt n)<4*n:=by
 have hn:=hE.npos
 have:=jM (List.replicate n false) 0 (by rw[List.getElem?_replicate,if_pos hn])
 have h2:((List.replicate n false).filter fun b=>!b).length=n:=by simp
 unfold mz pt
 simp at this ⊢
 omega
theorem pu:∀k,(eY E n k).2.2=[]∨mz (eY E n k)+k<4*n
 |0=>.inr (by have:=Gp hE;simpa [eY] using this)
 |k+1=>by
  rcases pu k with h|h
  ·left;rw[eY,m9 h];exact h
  ·by_cases hs:(eY E n k).2.2=[]
   ·left;rw[eY,m9 hs];exact hs
   ·right
    have:=(fj hE k).less hE hs
    rw[eY];omega
theorem oJ:(eY E n (4*n)).2.2=[]:=by
 rcases pu hE (4*n) with h|h
 ·exact h
 ·omega
omit hE in
theorem AN {k:Nat} (h:(eY E n k).2.2=[]) (hk:k≤4*n):eY E n (4*n)=eY E n k:=by
 have:∀j,eY E n (k+j)=eY E n k:=fun j=>by
  induction j with
  |zero=>rfl
  |succ j ih=>rw[←Nat.add_assoc,eY,ih,m9 h]
 have h2:=this (4*n - k)
 rwa [show k+(4*n - k)=4*n by omega] at h2
theorem bP (v:Int):v∈aB E n↔om E v:=by
 have h:=fj hE (4*n)
 have he:=oJ hE
 unfold aB
 obtain ⟨hlen,hrng,hseen,hnd,hrch,hdone,hpart,hled,hlast⟩:=h
 rw[he] at hrng hseen hnd hrch hdone hpart hled hlast
 simp only[List.map_nil,w6] at hrng hseen hnd hrch hdone hpart hled hlast
 rw[List.mem_reverse]
 refine ⟨hrch v,fun hr=>?_⟩
 unfold om at hr
 induction hr with
 |refl _=>exact List.mem_of_getLast? hlast
 |step _ h1 _ ih=>exact hdone _ ih _ h1
theorem de {v:Int} (hv:v∈aB E n):0≤v∧v<n:=by
 have h:=(fj hE (4*n)).rng
 exact h v (List.mem_append_left _ (by unfold aB at hv;exact List.mem_reverse.1 hv))
theorem iv:(aB E n).Nodup:=by
 have h:=(fj hE (4*n)).nodup
 rw[oJ hE] at h
 unfold aB
 rw[(List.reverse_perm _).nodup_iff]
 simpa using h
theorem lY:(aB E n)[0]?=some 0:=by
 have h:=(fj hE (4*n)).last
 rw[oJ hE] at h
 unfold aB
 rw[←List.head?_eq_getElem?,List.head?_reverse]
 simpa using h
theorem AO (k:Nat) (v:Int) (hk:(aB E n)[k]?=some v) (h0:v≠0):∃(j:Nat) (p:Int),j<k∧(aB E n)[j]?=some p∧v∈E p:=by
 have h:=(fj hE (4*n)).led
 rw[oJ hE] at h
 simp only[List.map_nil,w6] at h
 unfold aB at hk ⊢
 generalize (eY E n (4*n)).2.1=out at h hk ⊢
 have key:∀(out:List Int),CE E out []→∀k,out.reverse[k]?=some v→∃(j:Nat) (p:Int),j<k∧out.reverse[j]?=some p∧v∈E p:=fun out=>by
  induction out with
  |nil=>intro _ k hk;simp at hk
  |cons w out ih=>
   rintro ⟨h1,h2⟩ k hk
   rw[List.reverse_cons] at hk ⊢
   by_cases hlt:k<out.reverse.length
   ·rw[List.getElem?_append_left hlt] at hk
    obtain ⟨j,p,h3,h4,h5⟩:=ih h2 k hk
    exact ⟨j,p,h3,by rw[List.getElem?_append_left (by omega)];exact h4,h5⟩
   ·rw[List.getElem?_append_right (by omega)] at hk
    have hk0:k=out.reverse.length∧w=v:=by
     cases hq:k - out.reverse.length with
     |zero=>rw[hq] at hk;simp at hk;exact ⟨by omega,hk⟩
     |succ q=>rw[hq] at hk;simp at hk
    obtain ⟨rfl,rfl⟩:=hk0
    rcases h1 with h1|⟨p,h1,h3⟩
    ·exact absurd h1 h0
    ·have h3:p∈out.reverse:=by simpa using h3
     obtain ⟨j,hj,e⟩:=List.mem_iff_getElem.1 h3
     exact ⟨j,p,hj,by rw[List.getElem?_append_left hj,qt hj,e],h1⟩
 exact key out h k hk
end
end Go.Proofs.YtdilpodccjlkgaaGreatDoor
namespace Go.Proofs.YtdilpodccjlkgaaGreatDoor
open Go.Proofs.Tryz
def bx (n:Nat):List Int:=(List.range n).map Int.ofNat
theorem eM {n k:Nat} (h:k<n):(bx n)[k]?=some (k:Int):=by unfold bx;rw[w2,List.getElem?_range h];rfl
theorem bS (n:Nat):(bx n).length=n:=by simp[bx]
theorem cK {n:Nat} {x:Int}:x∈bx n↔0≤x∧x<n:=by
 unfold bx
 rw[List.mem_map]
 constructor
 ·rintro ⟨k,hk,rfl⟩;have:=List.mem_range.1 hk;exact ⟨Int.natCast_nonneg k,Int.ofNat_lt.2 this⟩
 ·rintro ⟨h0,h1⟩;exact ⟨x.toNat,List.mem_range.2 (by omega),wc h0⟩
theorem nM (n:Nat):bx (n+1)=bx n++[(n:Int)]:=by unfold bx;rw[List.range_succ,w5];rfl
def bd (E:Int→List Int) (n:Nat) (b:Int):List Int:=(bx n).flatMap fun i=>((E i).filter fun c=>decide (c=b)).map fun _=>i
theorem jN {E:Int→List Int} {n:Nat} {b p:Int} (hE:EOk E n) (ho:∀x:Int,¬(0≤x∧x<n)→E x=[]):p∈bd E n b↔b∈E p:=by
 unfold bd
 rw[List.mem_flatMap]
 constructor
 ·rintro ⟨i,hi,h⟩
  obtain ⟨c,hc,rfl⟩:=List.mem_map.1 h
  obtain ⟨h1,h2⟩:=List.mem_filter.1 hc
  have h2:c=b:=by simpa using h2
  exact h2▸h1
 ·intro h
  have hp:0≤p∧p<n:=Classical.byContradiction fun hn=>by rw[ho p hn] at h;cases h
  exact ⟨p,cK.2 hp,List.mem_map.2 ⟨b,List.mem_filter.2 ⟨h,by simp⟩,rfl⟩⟩
theorem td {l:List Int} {b:Int} (h0:0≤b) (h:b.toNat<l.length) (m x:Int):gi (l.set b.toNat m) x=if x=b then m else gi l x:=by rw[tc h0 h];rfl
theorem pv (n:Nat):∀(W:List Int) (i:Nat) (l:List Int),l.length=n→W.Nodup→(∀b∈W,0≤b∧b<n) →
  ((W.zipIdx i).foldl (fun l p=>l.set p.1.toNat (p.2:Int)) l).length=n∧(∀(k:Nat) b,W[k]?=some b→gi ((W.zipIdx i).foldl (fun l p=>l.set p.1.toNat (p.2:Int)) l) b=((i+k:Nat):Int)) ∧
  ∀b,b ∉ W→gi ((W.zipIdx i).foldl (fun l p=>l.set p.1.toNat (p.2:Int)) l) b=gi l b
 |[],i,l,hl,_,_=>⟨hl,fun k b h=>by simp at h,fun b _=>rfl⟩
 |v::W,i,l,hl,hW,hr=>by
  rw[List.zipIdx_cons,List.foldl_cons]
  rw[List.nodup_cons] at hW
  have hv:=hr v (.head _)
  obtain ⟨g1,g2,g3⟩:=pv n W (i+1) (l.set v.toNat (i:Int)) (by rw[List.length_set];exact hl) hW.2 fun b hb=>hr b (.tail _ hb)
  refine ⟨g1,fun k b h=>?_,fun b hb=>?_⟩
  ·cases k with
   |zero=>
    simp at h;subst h
    rw[g3 _ hW.1,td hv.1 (by omega),if_pos rfl];rfl
   |succ k=>
    rw[g2 k b (by simpa using h)];omega
  ·rw[g3 b (fun h=>hb (.tail _ h)),td hv.1 (by omega),if_neg (fun e=>hb (by rw[e];exact .head _))]
theorem Gq (n:Nat) (x:Int):gi (List.replicate n (-1)) x=-1:=by
 unfold gi;split
 ·rw[List.getElem?_replicate];split<;>rfl
 ·rfl
structure fT (E:Int→List Int) (n:Nat):Prop extends EOk E n where
 out:∀x:Int,¬(0≤x∧x<n)→E x=[]
section
variable {E:Int→List Int} {n:Nat} (hE:fT E n)
include hE
theorem kM {k:Nat} {b:Int} (h:(aB E n)[k]?=some b):gi (dY n (aB E n)) b=k:=by
 have:=(pv n (aB E n) 0 (List.replicate n (-1)) (by simp) (iv hE.toEOk) fun b hb=>de hE.toEOk hb).2.1 k b h
 rw[Nat.zero_add] at this
 exact this
theorem yT {b:Int} (h:b ∉ aB E n):gi (dY n (aB E n)) b=-1:=by
 have:=(pv n (aB E n) 0 (List.replicate n (-1)) (by simp) (iv hE.toEOk) fun b hb=>de hE.toEOk hb).2.2 b h
 rw[Gq] at this
 exact this
theorem fT.gok:mZ E (dY n (aB E n)) (aB E n) (bd E n) n:=by
 have hpos:∀b,b∈aB E n↔0≤gi (dY n (aB E n)) b:=fun b=>by
  constructor
  ·intro hb
   obtain ⟨k,hk,e⟩:=List.mem_iff_getElem.1 hb
   rw[kM hE (k:=k) (by rw[qt hk,e])];omega
  ·intro h
   refine Classical.byContradiction fun hb=>?_
   rw[yT hE hb] at h;omega
 refine ⟨⟨bP hE.toEOk,hpos,fun a b ha hb e=>?_,kM hE (k:=0) (lY hE.toEOk),fun b hb h0=>?_,fun b hb=>yT hE hb,fun b hb=>(de hE.toEOk hb).1⟩,fun b hb=>(de hE.toEOk hb).2,fun k hk=>?_,fun b _ p=>jN hE.toEOk hE.out⟩
 ·obtain ⟨j,hj,e1⟩:=List.mem_iff_getElem.1 ha
  obtain ⟨k,hk,e2⟩:=List.mem_iff_getElem.1 hb
  rw[kM hE (k:=j) (by rw[qt hj,e1]),kM hE (k:=k) (by rw[qt hk,e2])] at e
  have:j=k:=by omega
  subst this
  rw[←e1,←e2]
 ·obtain ⟨k,hk,e⟩:=List.mem_iff_getElem.1 hb
  obtain ⟨j,p,h1,h2,h3⟩:=AO hE.toEOk k b (by rw[qt hk,e]) h0
  refine ⟨p,?_,h3,?_⟩
  ·obtain ⟨hj,e2⟩:=List.getElem?_eq_some_iff.1 h2
   exact e2▸qx hj
  ·rw[kM hE h2,kM hE (k:=k) (by rw[qt hk,e])];omega
 ·rw[qt hk]
  exact kM hE (qt hk)
end
def bt (E:Int→List Int) (n:Nat):List Int:=si (dY n (aB E n)) (aB E n) (bd E n) n
theorem lk (E:Int→List Int) (n:Nat):(bt E n).length=n:=by unfold bt si;rw[lj];simp[fu]
def uH (N l:List Int) (b:Int):List Int:=l.set b.toNat (gi l (gi N b)+1)
def bO (E:Int→List Int) (n:Nat):List Int:=(aB E n).tail.foldl (uH (bt E n)) (fu n)
theorem uI (N l:List Int) (b:Int):(uH N l b).length=l.length:=by unfold uH;rw[List.length_set]
section
variable {E:Int→List Int} {n:Nat} (hE:fT E n)
include hE
theorem fT.exact:kj E (gi (dY n (aB E n))) (aB E n) (gi (bt E n)):=hE.gok.near
theorem fT.near_mem {b:Int} (hb:b∈aB E n) (h0:b≠0):gi (bt E n) b∈aB E n∧gi (dY n (aB E n)) (gi (bt E n) b)<gi (dY n (aB E n)) b:=by
 have:=hE.exact.inv.near b h0 (hE.exact.has b hb)
 exact ⟨this.1,this.2.2⟩
structure oo (E:Int→List Int) (n:Nat) (l:List Int) (k:Nat):Prop where
 len:l.length=n
 zero:gi l 0=0
 row:∀b∈aB E n,b≠0→gi (dY n (aB E n)) b<k→gi l b=gi l (gi (bt E n) b)+1∧0≤gi l b
 none:∀b,(b∈aB E n→(k:Int)≤gi (dY n (aB E n)) b)→b≠0→gi l b=-1
omit hE in
theorem lZ (n:Nat):(fu n).length=n:=by simp[fu]
theorem oo.first:oo E n (fu n) 1:=by
 have hn:=hE.npos
 refine ⟨lZ n,by rw[my hn];rfl,fun b hb h0 hlt=>?_,fun b _ h0=>by rw[my hn];simp[h0]⟩
 have h1:=hE.gok.ord
 have:b=0:=h1.inj b 0 hb h1.zmem (by rw[h1.zero];have:=(h1.pos b).1 hb;omega)
 exact absurd this h0
theorem oo.step {l:List Int} {k:Nat} {b:Int} (hk:0<k) (hb:(aB E n)[k]?=some b) (h:oo E n l k):oo E n (uH (bt E n) l b) (k+1):=by
 have ho:=hE.gok.ord
 obtain ⟨hk2,e⟩:=List.getElem?_eq_some_iff.1 hb
 have hbm:b∈aB E n:=e▸qx hk2
 have hat:=kM hE hb
 have hb0:b≠0:=fun e2=>by rw[e2,ho.zero] at hat;omega
 have hr:=de hE.toEOk hbm
 have hnr:=hE.near_mem hbm hb0
 have hnb:gi (bt E n) b≠b:=fun e2=>by rw[e2] at hnr;omega
 have hlen:=h.len
 have hst:∀x,gi (uH (bt E n) l b) x=if x=b then gi l (gi (bt E n) b)+1 else gi l x:=fun x=>td hr.1 (by omega) _ x
 refine ⟨by rw[uI];exact h.len,by rw[hst,if_neg hb0.symm];exact h.zero,fun x hx h0 hlt=>?_,fun x hx h0=>?_⟩
 ·by_cases ex:x=b
  ·subst ex
   rw[hst,if_pos rfl,hst,if_neg hnb]
   refine ⟨Z,?_⟩
   by_cases hn0:gi (bt E n) x=0
   ·rw[hn0,h.zero];omega
   ·have:=(h.row _ hnr.1 hn0 (by omega)).2;omega
  ·have hlt2:gi (dY n (aB E n)) x<k:=by
    have:gi (dY n (aB E n)) x≠gi (dY n (aB E n)) b:=fun e2=>ex (ho.inj x b hx hbm e2)
    omega
   have hnx:=hE.near_mem hx h0
   have hne:gi (bt E n) x≠b:=fun e2=>by rw[e2] at hnx;omega
   rw[hst,if_neg ex,hst,if_neg hne]
   exact h.row x hx h0 hlt2
 ·have ex:x≠b:=fun e2=>by subst e2;have:=hx hbm;omega
  rw[hst,if_neg ex]
  exact h.none x (fun hm=>by have:=hx hm;omega) h0
theorem oo.fold:∀(bs:List Int) (k:Nat) (l:List Int),0<k→(aB E n).drop k=bs→oo E n l k→oo E n (bs.foldl (uH (bt E n)) l) (max k (aB E n).length)
 |[],k,l,hk,hd,h=>by
  have:(aB E n).length≤k:=by have:=congrArg List.length hd;simp at this;omega
  rw[Nat.max_eq_left this];exact h
 |b::bs,k,l,hk,hd,h=>by
  have hk2:k<(aB E n).length:=by have:=congrArg List.length hd;simp at this;omega
  have hb:(aB E n)[k]?=some b:=by have:=congrArg (fun z:List Int=>z[0]?) hd;simpa using this
  have:=oo.fold bs (k+1) _ (by omega) (by rw[←List.drop_drop,hd];rfl) (h.step hE hk hb)
  rw[List.foldl_cons]
  rwa [show max (k+1) (aB E n).length=max k (aB E n).length by omega] at this
theorem fT.lev:oo E n (bO E n) (aB E n).length:=by
 have:=oo.fold hE (aB E n).tail 1 _ (by omega) (by rw[List.drop_one]) (oo.first hE)
 rwa [Nat.max_eq_right hE.gok.pos] at this
theorem fT.at_lt {b:Int} (hb:b∈aB E n):gi (dY n (aB E n)) b<(aB E n).length:=by
 obtain ⟨k,hk,_,e⟩:=hE.gok.at_lt hb
 rw[e];omega
theorem fT.lev_near {b:Int} (hb:b∈aB E n) (h0:b≠0):gi (bO E n) b=gi (bO E n) (gi (bt E n) b)+1:=(hE.lev.row b hb h0 (hE.at_lt hb)).1
theorem fT.lev_nn {b:Int} (hb:b∈aB E n):0≤gi (bO E n) b:=by
 by_cases h0:b=0
 ·rw[h0,hE.lev.zero];omega
 ·exact (hE.lev.row b hb h0 (hE.at_lt hb)).2
theorem fT.lev_none {b:Int} (hb:b ∉ aB E n):gi (bO E n) b=-1:=hE.lev.none b (fun h=>absurd h hb) (fun e=>hb (by rw[e];exact hE.gok.ord.zmem))
theorem fT.lev_mem (b:Int):gi (bO E n) b≠-1↔b∈aB E n:=by
 refine ⟨fun h=>Classical.byContradiction fun hb=>h (hE.lev_none hb),fun hb h=>?_⟩
 have:=hE.lev_nn hb;omega
theorem fT.lev_anc {b a:Int} (hb:b∈aB E n) (h:gz (gi (bt E n)) b a):a∈aB E n∧gi (bO E n) a≤gi (bO E n) b∧(gi (bO E n) b≤gi (bO E n) a→a=b):=by
 induction h with
 |refl b=>exact ⟨hb,Int.le_refl _,fun _=>rfl⟩
 |@up x a h1 h2 h3 ih=>
  obtain ⟨g1,g2,g3⟩:=ih (hE.near_mem hb h1).1
  have:=hE.lev_near hb h1
  exact ⟨g1,by omega,fun _=>by omega⟩
theorem fT.dom_iff {a b:Int} (hb:b∈aB E n):gJ E a b↔gz (gi (bt E n)) b a:=(hE.exact.anc b a hb).symm
end
def cZ (N:List Int):Nat→Int→List Int
 |0,_=>[]
 |k+1,b=>b::if b=0 then[] else cZ N k (gi N b)
def fM (E:Int→List Int) (n:Nat) (a b:Int):Bool:=decide (gi (bO E n) b≠-1)&&(cZ (bt E n) n b).contains a
section
variable {E:Int→List Int} {n:Nat} (hE:fT E n)
include hE
theorem ll {a:Int}:∀(k:Nat) (b:Int),b∈aB E n→gi (bO E n) b<k→(a∈cZ (bt E n) k b↔gz (gi (bt E n)) b a)
 |0,b,hb,hk=>by have:=hE.lev_nn hb;omega
 |k+1,b,hb,hk=>by
  unfold cZ
  rw[List.mem_cons]
  by_cases h0:b=0
  ·rw[if_pos h0]
   constructor
   ·rintro (h|h)
    ·subst h;exact .refl _
    ·cases h
   ·intro h
    rcases h.cases' with e|⟨h1,_⟩
    ·exact .inl e
    ·exact absurd h0 h1
  ·rw[if_neg h0]
   have h1:=hE.near_mem hb h0
   have h2:=hE.lev_near hb h0
   rw[ll k _ h1.1 (by omega)]
   constructor
   ·rintro (h|h)
    ·subst h;exact .refl _
    ·exact .up h0 (hE.exact.has b hb) h
   ·intro h
    rcases h.cases' with e|⟨_,_,h3⟩
    ·exact .inl e
    ·exact .inr h3
theorem tf {b:Int} (hb:b∈aB E n):gi (bO E n) b≤gi (dY n (aB E n)) b:=by
 obtain ⟨k,hk⟩:∃k:Nat,gi (dY n (aB E n)) b≤k:=⟨(gi (dY n (aB E n)) b).toNat,by omega⟩
 induction k generalizing b with
 |zero=>
  have ho:=hE.gok.ord
  have:b=0:=ho.inj b 0 hb ho.zmem (by rw[ho.zero];have:=(ho.pos b).1 hb;omega)
  rw[this,hE.lev.zero,ho.zero];omega
 |succ k ih=>
  by_cases h0:b=0
  ·rw[h0,hE.lev.zero,hE.gok.ord.zero];omega
  ·have h1:=hE.near_mem hb h0
   have h2:=hE.lev_near hb h0
   have:=ih h1.1 (by omega)
   omega
omit hE in
theorem lm:∀(l m:List Int),l.Nodup→(∀x∈l,x∈m)→l.length≤m.length
 |[],_,_,_=>qw _
 |x::l,m,h1,h2=>by
  rw[List.nodup_cons] at h1
  have hx:=h2 x (.head _)
  have:=lm l (m.erase x) h1.2 fun y hy=>(List.mem_erase_of_ne (fun e=>h1.1 (by rw[←e];exact hy))).2 (h2 y (.tail _ hy))
  have hp:=List.length_pos_of_mem hx
  rw[List.length_erase_of_mem hx] at this
  rw[List.length_cons];omega
theorem eZ:(aB E n).length≤n:=by
 have h1:=iv hE.toEOk
 have h2:∀x∈aB E n,x∈bx n:=fun x hx=>cK.2 (de hE.toEOk hx)
 have:=lm _ _ h1 h2
 rwa [bS] at this
theorem fT.domB_iff (a b:Int):fM E n a b=true↔gJ E a b:=by
 unfold fM
 rw[wa,decide_eq_true_iff,hE.lev_mem]
 constructor
 ·rintro ⟨hb,h⟩
  have h1:=tf hE hb
  have h2:=hE.at_lt hb
  have h3:=eZ hE
  exact (hE.dom_iff hb).2 ((ll hE n b hb (by omega)).1 (by simpa using h))
 ·intro h
  have hb:=(bP hE.toEOk b).2 h.1
  have h1:=tf hE hb
  have h2:=hE.at_lt hb
  have h3:=eZ hE
  exact ⟨hb,by simpa using (ll hE n b hb (by omega)).2 ((hE.dom_iff hb).1 h)⟩
end
end Go.Proofs.YtdilpodccjlkgaaGreatDoor
namespace Go.Proofs.YtdilpodccjlkgaaGreatDoor
open Go.Proofs.Tryz
def cL (t:fi):List Int:=if t.kind=0 then[t.to0] else if t.kind=1 then (if t.to0=t.to1 then[t.to0] else[t.to0,t.to1]) else[]
theorem sk (t:fi):(cL t).length≤2:=by unfold cL;split<;>(try split)<;>(try split)<;>simp
theorem uJ (t:fi):(cL t).Nodup:=by
 unfold cL
 split
 ·simp
 ·split
  ·split<;>simp_all
  ·simp
def ah (f:ac) (b:Int):List Int:=if 0≤b then ((f.blocks[b.toNat]?).map fun c=>cL c.term).getD [] else[]
theorem pw {f:ac} {k:Nat} (h:k<f.blocks.length):ah f (k:Int)=cL f.blocks[k].term:=by
 unfold ah;rw[if_pos (by omega)]
 rw[show ((k:Int).toNat)=k from rfl,qt h];rfl
theorem jO {f:ac} {b:Int} (h0:0≤b) (h:b.toNat<f.blocks.length):ah f b=cL f.blocks[b.toNat].term:=by
 unfold ah;rw[if_pos h0,qt h];rfl
theorem f7 {f:ac} {b:Int} (h:¬(0≤b∧b<f.blocks.length)):ah f b=[]:=by
 unfold ah
 split
 ·rw[List.getElem?_eq_none (by omega)];rfl
 ·rfl
theorem py (f:ac) (b:Int):(ah f b).length≤2:=by
 unfold ah
 split
 ·cases f.blocks[b.toNat]? with
  |none=>simp
  |some c=>exact sk c.term
 ·simp
theorem jP (f:ac) (b:Int):(ah f b).Nodup:=by
 unfold ah
 split
 ·cases f.blocks[b.toNat]? with
  |none=>simp
  |some c=>exact uJ c.term
 ·simp
structure bW (f:ac):Prop where
 pos:0<f.blocks.length
 rng:∀b∈f.blocks,∀c∈cL b.term,0≤c∧c<f.blocks.length
theorem bW.grph {f:ac} (h:bW f):fT (ah f) f.blocks.length:=
 {npos:=h.pos
  rng:=fun b h0 h1 c hc=>by
   rw[jO h0 (by omega)] at hc
   exact h.rng _ (qx (by omega)) c hc
  len:=py f
  out:=fun _ hx=>f7 hx }
theorem mA {E:Int→List Int} (hn:∀b,(E b).Nodup) (n:Nat) (b:Int):(bd E n b).Nodup∧(bd E n b).Pairwise (·<·):=by
 have key:(bd E n b).Pairwise (·<·):=by
  unfold bd
  rw[List.flatMap,List.pairwise_flatten]
  constructor
  ·intro l hl
   obtain ⟨i,_,rfl⟩:=List.mem_map.1 hl
   have h1:=hn i
   have h2:((E i).filter fun c=>decide (c=b)).length≤1:=by
    generalize E i=l at h1
    induction l with
    |nil=>simp
    |cons x l ih=>
     rw[List.nodup_cons] at h1
     rw[List.filter_cons]
     split
     ·rename_i hx
      have hx:x=b:=by simpa using hx
      have:l.filter (fun c=>decide (c=b))=[]:=List.filter_eq_nil_iff.2 fun y hy=>by
       intro e
       have:y=b:=by simpa using e
       rw[←hx] at this
       exact h1.1 (this▸hy)
      rw[this];simp
     ·exact ih h1.2
   match h3:((E i).filter fun c=>decide (c=b)) with
   |[]=>simp
   |[x]=>simp
   |x::y::r=>rw[h3] at h2;simp at h2
  ·rw[List.pairwise_map]
   unfold bx
   rw[List.pairwise_map]
   refine List.Pairwise.imp ?_ List.pairwise_lt_range
   intro i j hij x hx y hy
   obtain ⟨_,_,rfl⟩:=List.mem_map.1 hx
   obtain ⟨_,_,rfl⟩:=List.mem_map.1 hy
   exact Int.ofNat_lt.2 hij
 exact ⟨key.imp fun h e=>by omega,key⟩
def gX (E:Int→List Int) (a shut b:Int):Prop:=a≠shut∧∃c,c∈E a∧jG E (fun x=>x≠shut) c b
theorem gX.step {E:Int→List Int} {a shut x y:Int} (h:(x=a∧a≠shut)∨gX E a shut x) (he:y∈E x) (hy:y≠shut):gX E a shut y:=by
 rcases h with ⟨rfl,h⟩|⟨h,c,hc,hw⟩
 ·exact ⟨h,y,he,.refl hy⟩
 ·exact ⟨h,c,hc,.step hw he hy⟩
theorem gX.closed {E:Int→List Int} {a shut:Int} {out:Int→Prop} (hc:∀x y,x≠shut→(x=a∨out x)→y∈E x→y≠shut→out y) {b:Int} (h:gX E a shut b):out b:=by
 obtain ⟨ha,c,hc1,hw⟩:=h
 induction hw with
 |refl h1=>exact hc a c ha (.inl rfl) hc1 h1
 |step h1 h2 h3 ih=>exact hc _ _ h1.end_ (.inr ih) h2 h3
theorem CG {E:Int→List Int} {shut b:Int}:((b=0∧shut≠0)∨(b≠0∧gX E 0 shut b))↔jG E (fun x=>x≠shut) 0 b:=by
 constructor
 ·rintro (⟨rfl,h⟩|⟨_,h,c,hc,hw⟩)
  ·exact .refl (fun e=>h e.symm)
  ·exact jG.trans (.step (.refl h) hc hw.start) hw
 ·intro h
  by_cases hb:b=0
  ·exact .inl ⟨hb,fun e=>h.start e.symm⟩
  ·refine .inr ⟨hb,h.start,?_⟩
   rcases h.last with e|⟨c,hc,hw⟩
   ·exact absurd e hb
   ·exact ⟨c,hc,hw.mono fun _ h=>h.1⟩
theorem yU {E:Int→List Int} {n:Nat} (hE:fT E n) {b:Int}:jG E (fun x=>x≠-1) 0 b↔om E b:=by
 constructor
 ·exact fun h=>h.mono fun _ _=>trivial
 ·intro h
  refine h.self.mono fun x hx e=>?_
  have:=de hE.toEOk ((bP hE.toEOk x).2 hx.2)
  omega
abbrev gA:=Int × Int
def sm (v:Int) (i:Int) (b:aX):List gA:=(b.phis.filter fun p=>decide (p.dst=v)).map (fun _=>(i,-1))++(b.insts.zipIdx.filter fun x=>decide (x.1.dst=v)).map fun x=>(i,(x.2:Int))
def bu (f:ac) (v:Int):List gA:=f.blocks.zipIdx.flatMap fun b=>sm v (b.2:Int) b.1
def aL (f:ac) (v:Int):gA:=(bu f v).head?.getD (-1,0)
def yV (f:ac):Prop:=∀v:Nat,v<f.vars.length→(bu f v).length≤1∧(bu f v≠[]→f.params.length≤v)
def cY (f:ac) (m:gA) (b at_:Int):Prop:=m.1<0∨(m.1=b∧m.2<at_)∨(0≤m.1∧m.1≠b∧gJ (ah f) m.1 b)
def CH (f:ac):Prop:=∀i (h:i<f.blocks.length),∀p∈f.blocks[i].phis,p.from_.Perm (bd (ah f) f.blocks.length i)
def CI (f:ac):Prop:=∀i:Nat,i<f.blocks.length→om (ah f) i
def fE (f:ac) (b:Int):Int:=((f.blocks[b.toNat]?).map fun c=>(c.insts.length:Int)).getD 0
def tg (f:ac) (i:Nat) (b:aX):Prop:=
 (∀p∈b.phis,∀q∈p.args.zip p.from_,cY f (aL f q.1) q.2 (fE f q.2)) ∧
 (∀k (h:k<b.insts.length),∀v∈b.insts[k].args,cY f (aL f v) i k) ∧
 (b.term.kind=0∨cY f (aL f b.term.var) i b.insts.length)
def Gr (f:ac):Prop:=∀i (h:i<f.blocks.length),tg f i f.blocks[i]
def CJ (f:ac):Prop:=CH f∧CI f∧yV f∧Gr f
end Go.Proofs.YtdilpodccjlkgaaGreatDoor
namespace Go.Proofs.YtdilpodccjlkgaaGreatDoor
open Go.Proofs.Tryz
open Go.Proofs
theorem cS:da prog 23 3 1 1 [.int .i64 0]:=⟨_,wy,wz,Zv,by decide,by decide,by kernel_rfl⟩
theorem th:da prog 23 3 2 1 [.int .i64 0,.int .i64 0]:=⟨_,wy,wz,Zv,by decide,by decide,by kernel_rfl⟩
variable {E:World}
set_option maxRecDepth 20000
theorem Gs {t:fi} (h:t.kind=0):cL t=[t.to0]:=by unfold cL;rw[if_pos h]
theorem Gt {t:fi} (h:t.kind=1) (e:t.to0=t.to1):cL t=[t.to0]:=by unfold cL;rw[if_neg (by omega),if_pos h,if_pos e]
theorem Gu {t:fi} (h:t.kind=1) (e:¬t.to0=t.to1):cL t=[t.to0,t.to1]:=by unfold cL;rw[if_neg (by omega),if_pos h,if_neg e]
theorem Gw {t:fi} (h0:¬t.kind=0) (h:¬t.kind=1):cL t=[]:=by unfold cL;rw[if_neg h0,if_neg h]
theorem sn (t:fi):aM prog E 107 [.agg (oH t)] (.fro 1 ((cL t).map cX)):=by
 refine zp func107 Z (by decide) Z<|ai<|ya (cs:=_) Z Z Z<|za (jI Z)<|z6<|zd<|zm<|zd<|ai<|au je Z Y0 Z Z<|aA Ye Z<|ak Z Z<|ab Z<|z6<|zt Z (fun c0=>?_) (fun c0=>?_)
 ·refine zi<|yt Z (by simpa using c0)<|ai<|au je Z Zd Z Z<|za (q3 (j:=0) Z1 wz Z Z Z (by decide) Z)<|aA j6 Z<|y4 (rows:=[[_]]) cS Z Z Z Z Z<|za (nI Z)<|z6<|zg<|zn (x:=.fro _ _) Z ?_
  rw[Gs c0];rfl
 ·refine aW<|au je Z Y0 Z Z<|aA Ye Z<|ak Z Z<|aj Z<|zq (s:=10) Z (fun c1=>?_) (fun c1=>?_)
  ·refine z8 Z Z c1<|au je Z Zd Z Z<|z8 Z Z c1<|za (q3 (j:=0) Z1 wz Z Z Z (by decide) Z)<|z8 Z Z c1<|aA j6 Z<|z8 Z Z c1<|au je Z Zd Z Z<|z8 Z Z c1<|za (q3 (j:=1) Z1 wz Z Z Z (by decide) Z)<|z8 Z Z c1<|aA j6 Z<|z8 Z Z c1<|ak Z Z<|aw Z c1 Z<|ab Z<|z6<|zy Z (fun c2=>?_) (fun c2=>?_)
   ·refine ai<|au je Z Zd Z Z<|za (q3 (j:=0) Z1 wz Z Z Z (by decide) Z)<|aA j6 Z<|y4 (rows:=[[_]]) cS Z Z Z Z Z<|za (nI Z)<|z6<|zg<|zn (x:=.fro _ _) Z ?_
    rw[Gt (by simpa using c1) (by simpa using c2)];rfl
   ·refine ai<|au je Z Y0 Z Z<|aA Ye Z<|ak Z Z<|ab Z<|z6<|yt Z (by simpa using c1)<|ai<|au je Z Zd Z Z<|za (q3 (j:=0) Z1 wz Z Z Z (by decide) Z)<|aA j6 Z<|au je Z Zd Z Z<|za (q3 (j:=1) Z1 wz Z Z Z (by decide) Z)<|aA j6 Z<|y4 (rows:=[[_],[_]]) th Z Z Z Z Z<|za (nI Z)<|z6<|zg<|zn (x:=.fro _ _) Z ?_
    rw[Gu (by simpa using c1) (by simpa using c2)];rfl
  ·refine z7 Z Z c1<|z7 Z Z c1<|z7 Z Z c1<|z7 Z Z c1<|z7 Z Z c1<|z7 Z Z c1<|z7 Z Z c1<|ax Z c1 Z<|ab Z<|z6<|yg Z Z<|ai<|au je Z Y0 Z Z<|aA Ye Z<|ak Z Z<|ab Z<|z6<|yg Z (by simpa using c1)<|zi<|ai<|za (jI Z)<|z6<|zg ?_
   repeat (first|refine gO ?_|refine fA ?_)
   refine y9 (aS.slot (t:=2) Z (Gk 1))<|zn (x:=.fro _ _) Z ?_
   rw[Gw (by simpa using c0) (by simpa using c1)];rfl
def mB (rows:List (List Int)) (c x:Int):List (List Int):=rows.set c.toNat ((rows[c.toNat]?).getD []++[x])
def fN (rows:List (List Int)) (cs:List Int) (x:Int):List (List Int):=cs.foldl (fun r c=>mB r c x) rows
theorem pz (cs:List Int) (x:Int):∀rows,(fN rows cs x).length=rows.length:=by
 induction cs with
 |nil=>intro rows;rfl
 |cons c cs ih=>intro rows;show (fN (mB rows c x) cs x).length=_;rw[ih];unfold mB;simp
theorem uK (rows:List (List Int)) (cs:List Int) (c x:Int):fN rows (cs++[c]) x=mB (fN rows cs x) c x:=by unfold fN;rw[List.foldl_append];rfl
theorem AP {rows:List (List Int)} {c x:Int} (h0:0≤c) (b:Nat):(mB rows c x)[b]?=(rows[b]?).map (·++if c=(b:Int) then[x] else[]):=by
 unfold mB
 rw[List.getElem?_set]
 by_cases e:c.toNat=b
 ·have:c=(b:Int):=by omega
  rw[if_pos e,if_pos this,e]
  by_cases hb:b<rows.length
  ·rw[if_pos hb,qt hb];rfl
  ·rw[if_neg hb,List.getElem?_eq_none (by omega)];rfl
 ·have:¬c=(b:Int):=by omega
  rw[if_neg e,if_neg this];simp
theorem l3 (x:Int) (b:Nat):∀(cs:List Int) (rows:List (List Int)),(∀c∈cs,0≤c)→(fN rows cs x)[b]?=(rows[b]?).map (·++(cs.filter fun c=>decide (c=(b:Int))).map fun _=>x)
 |[],rows,_=>by simp[fN]
 |c::cs,rows,h=>by
  show (fN (mB rows c x) cs x)[b]?=_
  rw[l3 x b cs _ (fun c hc=>h c (List.mem_cons_of_mem _ hc)),AP (h c (List.mem_cons_self ..))]
  cases rows[b]? with
  |none=>rfl
  |some r=>
   by_cases e:c=(b:Int)
   ·simp[e]
   ·simp[e]
def cT (f:ac) (k:Nat):List (List Int):=(List.range f.blocks.length).map fun (b:Nat)=>bd (ah f) k (b:Int)
theorem f8 (f:ac) (k:Nat):(cT f k).length=f.blocks.length:=by unfold cT;simp
theorem uL (f:ac):List.replicate f.blocks.length []=cT f 0:=by
 apply List.ext_getElem
 ·rw[f8];simp
 ·intro i h1 h2
  unfold cT bd bx
  simp
theorem kN (E:Int→List Int) (k:Nat) (b:Int):bd E (k+1) b=bd E k b++((E k).filter fun c=>decide (c=b)).map fun _=>(k:Int):=by
 unfold bd;rw[nM,List.flatMap_append];simp
theorem uM {f:ac} {k:Nat} (h0:∀c∈ah f k,0≤c):fN (cT f k) (ah f k) k=cT f (k+1):=by
 apply List.ext_getElem?
 intro b
 rw[l3 _ _ _ _ h0]
 by_cases hb:b<f.blocks.length
 ·unfold cT
  rw[w2,w2,List.getElem?_range hb]
  simp only[Option.map_some]
  rw[kN]
 ·rw[List.getElem?_eq_none (by rw[f8];omega),List.getElem?_eq_none (by rw[f8];omega)];rfl
theorem CK {rows:List (List Int)} {c x:Int} (h:c.toNat<rows.length):rows.set c.toNat (rows[c.toNat]++[x])=mB rows c x:=by
 unfold mB;rw[qt h];rfl
theorem gY (f:ac) (b:Int):∀k,(bd (ah f) k b).length≤2*k
 |0=>by simp[bd,bx]
 |k+1=>by
  have h1:=gY f b k
  have h2:=py f k
  have h3:=List.length_filter_le (fun c=>decide (c=b)) (ah f k)
  rw[kN,qz,w1]
  omega
theorem EB {f:ac} {k b:Nat} {cs:List Int} {x:Int} (h0:∀c∈cs,0≤c) (hb:b<(fN (cT f k) cs x).length):(fN (cT f k) cs x)[b].length≤2*k+cs.length:=by
 have hb2:b<f.blocks.length:=by rwa [pz,f8] at hb
 have h:=l3 x b cs (cT f k) h0
 have hr:(cT f k)[b]?=some (bd (ah f) k (b:Int)):=by unfold cT;rw[w2,List.getElem?_range hb2];rfl
 rw[qt hb,hr] at h
 have h:(fN (cT f k) cs x)[b]=bd (ah f) k (b:Int)++(cs.filter fun c=>decide (c=(b:Int))).map fun _=>x:=by simpa using h
 have h2:=gY f b k
 have h3:=List.length_filter_le (fun c=>decide (c=(b:Int))) cs
 rw[h,qz,w1]
 omega
theorem pA (f:ac) (hE:bW f) (hn:f.blocks.length≤100000):aM prog E 65 [.agg (bE f)] (lG eI (cT f f.blocks.length)):=by
 refine zp func65 Z (by decide) Z<|ai<|ya (cs:=_) Z Z Z<|za (jI Z)<|z6<|ai<|au jg Z Z8 Z Z<|aI Zg Z<|aq ju Z<|yb (m:=f.blocks.length) jh Zi Z Z Z Z Z (by simp) (by simp) (by show (24:Int)*_≤_;omega) (by omega) eI 3<|fun b11=>za (qi (v:=eh _ _) Z)<|z6<|zd<|ai<|au jg Z Z8 Z Z<|aI Zg Z<|aq ju Z<|aa Z<|z6<|zm<|y8 (γ:=Nat) [3,13,14] (fun k=>[(15,.int .i64 k)]) (fun k=>[(0,dv eI 23 3 b11 (cT f k))]) (fun k=>k≤f.blocks.length) (fun k=>f.blocks.length - k) 0 aK ⟨_,(.refl _),by rw[uL]⟩ (qw _) ?_
 rintro k hk
 refine ai<|ay Z Z<|z6<|zd<|zt Z (fun ck=>?_) (fun ck=>?_)
 ·have hk2:k<f.blocks.length:=by simp at ck;omega
  have hEk:ah f k=cL f.blocks[k].term:=pw hk2
  have hlen:=sk f.blocks[k].term
  have hrng:=hE.rng _ (qx hk2)
  refine zi<|zd<|zm<|ai<|aa Z<|za (bv k ju jx Z Z Z (qt hk2))<|ae Yo jx Z Z<|y7 (cs:=[.str ⟨#[]⟩,.raw (.slice none 0 0),.raw (.slice none 0 0),.int .i64 0,.int .i64 0,.int .i64 0,.int .i64 0]) Zl Z Z<|fun i5=>ao Z<|y1 jx Z Z Z Z Z Z .head Z<|z6<|ai<|za (zf ji Z Zo (by decide) Z Z)<|za (Gv.loadAC (l:=[_,_,_,_]) isAgg49 Zo Z ⟨_,.head⟩ Z Z)<|zh (sn _) Z<|aq wy Z<|aa Z<|z6<|zm<|y8 (γ:=Nat) [3,4,13,14,15,22,23] (fun j=>[(24,.int .i64 j)]) (fun j=>[(0,dv eI 23 3 b11 (fN (cT f k) ((cL f.blocks[k].term).take j) k))]) (fun j=>j≤(cL f.blocks[k].term).length) (fun j=>(cL f.blocks[k].term).length - j) 0 aK ⟨_,(.drop (.refl _)),Z⟩ (qw _) ?_
  rintro j hj
  refine ai<|ay Z Z<|z6<|zd<|zt Z (fun cj=>?_) (fun cj=>?_)
  ·have hj2:j<(cL f.blocks[k].term).length:=by simp at cj;omega
   obtain ⟨c,hc⟩:∃c,(cL f.blocks[k].term)[j]=c:=⟨_,rfl⟩
   have hr:=hrng c (hc▸qx hj2)
   obtain ⟨rows,hrows⟩:∃rows,fN (cT f k) ((cL f.blocks[k].term).take j) k=rows:=⟨_,rfl⟩
   have hrl:rows.length=f.blocks.length:=by rw[←hrows,pz,f8]
   have hcn:c.toNat<rows.length:=by omega
   have hrow:rows[c.toNat].length≤200002:=by
    have:=EB (f:=f) (k:=k) (b:=c.toNat) (cs:=(cL f.blocks[k].term).take j) (x:=k) (fun c hc=>(hrng c (List.mem_of_mem_take hc)).1) (by rw[hrows];exact hcn)
    simp only[hrows,w7] at this
    omega
   rw[hrows]
   refine zi<|zd<|zm<|ai<|za (bv j wy wz Z Z Z (by rw[qt hj2,hc])) ?_
   refine aA j6 Z<|ao Z<|z6<|aW<|za (yv (v:=eh _ _) Z)<|aa Z<|za (yv (v:=eh _ _) Z)<|aa Z<|za (qp (j:=c.toNat) jh j7 Z Z (by omega) (by omega))<|qc (j:=c.toNat) (r:=rows[c.toNat]) jf Z (qt hcn) (fun _=>.head)<|fun i33=>aa Z<|y4 (rows:=[[_]]) cS Z Z Z Z Z<|yu (k:=1) wy Y1 Z Z Z Z Z (fun _=>.head) (by rw[eI.av_len];rfl) (by decide) Z (by show (_+1)*8≤_;omega) (by show _+1≤_;omega)<|fun i36=>za (qp (j:=c.toNat) jh j7 Z Z (by omega) (by omega))<|qq (j:=c.toNat) (r:=rows[c.toNat]++[(k:Int)]) j7 Z Z (by omega) .head .head Z (eI.av_push _ _) (by simp)<|z6<|aW<|aE Z Z<|aa Z<|z6 ?_
   exact ⟨j+1,lf,aK,⟨_,(.refl _),by rw[qu hj2,uK,hrows,hc,CK hcn]⟩,hj2,by omega⟩
  ·have hjn:j=(cL f.blocks[k].term).length:=by simp at cj;omega
   refine y6<|aW<|aE Z Z<|aa Z<|z6 ?_
   exact ⟨k+1,db,aK,⟨_,(.refl _),by rw[hjn,qy,←hEk,uM (fun c hc=>(hrng c (hEk▸hc)).1)]⟩,hk2,by omega⟩
 ·have hkn:k=f.blocks.length:=by simp at ck;omega
  subst hkn
  refine zz (aS.nestKnow (s:=3) Z .head (f8 f _))<|y6<|ai<|be Z<|za (nI Z)<|z6<|zg<|zn (x:=.fro _ _) Z ?_
  rfl
end Go.Proofs.YtdilpodccjlkgaaGreatDoor
namespace Go.Proofs.YtdilpodccjlkgaaGreatDoor
open Go.Proofs.Tryz
open Go.Proofs
theorem FX:dB prog 204 #[(0,1),(1,1)] [.int .i64 0,.int .i64 0]:=⟨_,_,X5,zeroValue204,fun w=>by kernel_rfl,rfl⟩
theorem yW:da prog 205 204 1 2 [.int .i64 0,.int .i64 0]:=⟨_,Yx,sizeOf204,zeroValue204,by decide,by decide,by kernel_rfl⟩
variable {E:World}
set_option maxRecDepth 20000
def Hb (r:List (Int × Nat)):List AV:=(r.reverse.map fun q=>[AV.int .i64 q.1,AV.int .i64 (q.2:Int)]).flatten
theorem kO (b:Int) (k:Nat) (r:List (Int × Nat)):Hb ((b,k)::r)=Hb r++[AV.int .i64 b,AV.int .i64 (k:Int)]:=by unfold Hb;simp
theorem tj (r:List (Int × Nat)):(Hb r).length=r.length*2:=by
 induction r with
 |nil=>rfl
 |cons q r ih=>obtain ⟨b,k⟩:=q;rw[kO,qz,ih];simp only[List.length_cons,List.length_nil];omega
theorem CL {f:ac} {n k:Nat} (hE:EOk (ah f) n):(eY (ah f) n k).2.1.length+(eY (ah f) n k).2.2.length≤n:=by
 have h:=fj hE k
 have h2:=lm _ (bx n) h.nodup fun x hx=>cK.2 (h.rng x hx)
 rw[bS,qz,w1] at h2
 exact h2
theorem xa (f:ac) (hE:bW f) (hn:f.blocks.length≤100000) (hrev:∀(l:List Int) (i:Nat) (T:TypeId),l.length≤200000→aY prog E 133 [.own i l.length] [(i,.grow 1 T (cI l))] fun r O=>r=.tup []∧O=[(i,.grow 1 T (cI l.reverse))]) :
  aM prog E 98 [.agg (bE f)] (.fro 1 ((aB (ah f) f.blocks.length).map cX)):=by
 have hG:=hE.grph
 have hpos:=hG.npos
 refine zp func98 Z (by decide) Z<|ai<|ya (cs:=_) Z Z Z<|za (jI Z)<|z6<|ai<|au jg Z Z8 Z Z<|aI Zg Z<|aq ju Z<|az.makeB (m:=f.blocks.length) jk Yp Z Z Z Z Z (by simp) (by simp) (by show (1:Int)*_≤_;omega) (by omega)<|fun i12=>za (eD Z)<|z6<|ai<|za (im Z)<|za (yi (j:=0) jk Z6 Z Z Z ⟨_,.head⟩ (by first|rfl|(simp[aD,aN];done)|(simp[aD,aN];omega)) hG.npos)<|qb (j:=0) Z6 Z Z .head (by first|omega|(simp;omega))<|z6<|ai<|za (jI Z)<|z6<|ai<|za (y3 (cps:=[(0,[_]),(1,[_])]) (rs:=[_,_]) FX Z Z Z)<|az.buildSliceO (cps:=[(0,[_,_])]) (rs:=[_,_]) yW Z Z Z Z Z<|fun i16=>za (eD Z)<|z6<|gU (t:=4) (k:=1) (T:=3) Z<|fun i4=>zz (zb (zc .t1))<|zd<|zm<|y8 (γ:=Nat × Nat × Nat) [1,3] (fun g=>[(4,.own g.2.1 (eY (ah f) f.blocks.length g.1).2.1.length),(5,.own g.2.2 (eY (ah f) f.blocks.length g.1).2.2.length)]) (fun g=>[(g.2.2,.grow 2 204 (Hb (eY (ah f) f.blocks.length g.1).2.2)),(g.2.1,.grow 1 3 (cI (eY (ah f) f.blocks.length g.1).2.1)),(i12,.grow 1 4 (cB (eY (ah f) f.blocks.length g.1).1))]) (fun g=>g.1≤4*f.blocks.length∧(eY (ah f) f.blocks.length g.1).1.length=f.blocks.length) (fun g=>mz (eY (ah f) f.blocks.length g.1)) (0,i4,i16) eo aH (⟨qw _,by simp[eY,pt]⟩) ?_
 rintro ⟨k,io,il⟩ ⟨hk,hsl⟩
 try dsimp only at *
 have hI:=fj hG.toEOk k
 have hlen:=CL (k:=k) hG.toEOk
 have hlt:=pu hG.toEOk k
 have hstep:eY (ah f) f.blocks.length (k+1)=sj (ah f) (eY (ah f) f.blocks.length k):=rfl
 rcases hx:eY (ah f) f.blocks.length k with ⟨seen,out,st⟩
 rw[hx] at hI hlen hlt hstep hsl
 dsimp only at hlen hlt hsl
 cases st with
 |nil=>
 ·refine zd<|ai<|za (im Z)<|za (qo Yx Z)<|aZ Z Z<|z6<|yg Z (by simp) ?_
  have hfin:=AN (E:=ah f) (n:=f.blocks.length) (k:=k) (by rw[hx]) hk
  refine y6<|ai<|za (im Z)<|zu Z (zj (.r (.l (.r (.rest _))))) (hrev out io 3 (by omega)) ?_
  rintro r82 O82 ⟨rfl,rfl⟩
  refine z6<|zz (aS.knowI (t:=4) Z .head (by simp))<|ai<|be Z<|za (nI Z)<|z6<|zg<|zn (x:=.fro _ _) Z ?_
  unfold aB;rw[hfin,hx];rfl
  |cons q r=>
 ·obtain ⟨b,j⟩:=q
  have hbr:=hI.rng b (by simp)
  have hbl:b.toNat<f.blocks.length:=by omega
  have hEb:ah f b=cL f.blocks[b.toNat].term:=jO hbr.1 hbl
  have hjl:=(hI.part (b,j) (by simp)).1
  dsimp only at hjl
  have hmn:mz (eY (ah f) f.blocks.length (k+1))<mz (eY (ah f) f.blocks.length k):=by rw[hstep,hx];exact rE.less hG.toEOk hI (by simp)
  have hk2:k+1≤4*f.blocks.length:=by simp at hlt;omega
  have hsn:(eY (ah f) f.blocks.length (k+1)).1.length=f.blocks.length:=(fj hG.toEOk (k+1)).len
  rw[lX] at hstep
  rw[hx] at hmn
  rw[kO]
  simp only[List.length_cons] at hlen ⊢
  refine zd<|ai<|za (im Z)<|za (qo Yx Z)<|aZ Z Z<|z6<|yt Z (by simp)<|zi<|zm<|ai<|za (im Z)<|za (im Z)<|za (qo Yx Z)<|za (Gv.sub Z Z (by unfold lE;show _∧((r.length+1:Nat):Int) - 1≤_;omega))<|za (Gv.idxOL (j:=r.length) Yx sizeOf204 Z Z (by show ((r.length+1:Nat):Int) - 1=_;omega) ⟨_,.head⟩ (by simp) (by show r.length<r.length+1;omega) (show r.length*2=(Hb r).length by rw[tj]))<|za (fU Z)<|z6<|zd<|zr (fun j=>false) (by kernel_rfl) Z (zj (.r (.rest _)))<|ad 0 Z (bK jg Z Z8 Z Z)<|ad 1 Z (e9 Zg Z)<|ad 2 Z (cJ Z)<|ad 3 Z (zw Z)<|ad 4 Z (zf X5 Z wz (by decide) Z Z)<|ad 5 Z (Gv.loadL (c:=.int _ _) (j:=0) j6 Z Z ⟨_,.head⟩ Z)<|ad 6 Z (bv b.toNat ju jx Z Z (by omega) (qt hbl))<|ad 7 Z (bK ji Z Zo Z Z)<|ad 8 Z (yw isAgg49 Zo Z Z)<|aQ 9 Z<|zh (sn _) Z<|z6<|ad 10 Z (nI Z)<|bI<|zd<|ai<|aJ Z<|ap Z<|za (zf X5 Z wz (by decide) Z Z)<|za (Gv.loadL (c:=.int _ _) (j:=1) j6 Z Z ⟨_,.head⟩ Z)<|be Z<|aq wy Z ?_
  refine ak Z Z<|z6<|zy Z (fun ce=>?_) (fun ce=>?_)
  ·have hje:j=(ah f b).length:=by rw[hEb];have h0:(j:Int)=((cL f.blocks[b.toNat].term).length:Int):=(by simpa using ce);omega
   rw[if_pos hje] at hstep
   refine ai<|za (im Z)<|aJ Z<|ap Z<|za (zf X5 Z wz (by decide) Z Z)<|za (Gv.loadL (c:=.int _ _) (j:=0) j6 Z Z ⟨_,.head⟩ Z)<|y4 (rows:=[[_]]) cS Z Z Z Z Z<|yu (k:=1) wy Y1 Z Z Z Z Z (fun _=>.t1) (by rw[aD];omega) (by decide) Z (by show (out.length+1)*8≤_;omega) (by show out.length+1≤_;omega)<|fun i48=>za (eD Z)<|z6<|ai<|za (im Z)<|za (im Z)<|za (qo Yx Z)<|za (Gv.sub Z Z (by unfold lE;show _∧((r.length+1:Nat):Int) - 1≤_;omega))<|az.cutLast (j:=r.length) Yx sizeOf204 Z Z (by show ((r.length+1:Nat):Int) - 1=_;omega) .head (by decide) (by rw[tj])<|za (eD Z)<|z6<|y6 ?_
   exact ⟨(k+1,i48,il),eo,⟨(by rw[hstep,qz];rfl),(by rw[hstep];rfl),trivial⟩,⟨_,(.refl _),by rw[hstep];dsimp only;rw[←oZ];rfl⟩,⟨hk2,hsn⟩,by exact hmn⟩
  ·have hje:¬j=(ah f b).length:=by rw[hEb];have h0:¬(j:Int)=((cL f.blocks[b.toNat].term).length:Int):=(by simpa using ce);omega
   have hj2:j<(cL f.blocks[b.toNat].term).length:=by rw[←hEb];omega
   rw[if_neg hje] at hstep
   obtain ⟨c,hc⟩:∃c,ge (ah f b) j=c:=⟨_,rfl⟩
   have hcj:(cL f.blocks[b.toNat].term)[j]?=some c:=by rw[←hEb];unfold ge at hc;rw[←hc,hEb,qt hj2];rfl
   have hcr:=hG.rng b hbr.1 hbr.2 c (by rw[hEb];exact w4 hcj)
   rw[hc] at hstep
   have hgs:seen[c.toNat]?=some (gb seen c):=by unfold gb;rw[qt (by omega)];rfl
   have hl2:=hG.len b
   rw[hEb] at hl2
   refine zi<|ai<|be Z<|aJ Z<|ap Z<|za (zf X5 Z wz (by decide) Z Z)<|za (Gv.loadL (c:=.int _ _) (j:=1) j6 Z Z ⟨_,.head⟩ Z)<|za (bv j wy wz Z Z Z hcj)<|aA j6 Z<|ao Z<|z6<|ai<|aJ Z<|ap Z<|za (zf X5 Z wz (by decide) Z Z)<|za (Gv.loadL (c:=.int _ _) (j:=1) j6 Z Z ⟨_,.head⟩ Z)<|aE Z Z<|ap Z<|za (zf X5 Z wz (by decide) Z Z)<|az.storeL (j:=1) (l:=[_]) (new:=[_,_]) wz Z Z Z Z Z Z Z .head Z Z Z<|z6<|ai<|za (im Z)<|aa Z<|za (yi (j:=c.toNat) jk Z6 Z Z (by omega) ⟨_,.t2⟩ (by first|rfl|(simp[aD,aN];done)|(simp[aD,aN];omega)) (by omega))<|za (Gv.loadB (j:=c.toNat) Ym Z ⟨_,.t2⟩ hgs)<|aC Z<|z6<|zy Z (fun cs=>?_) (fun cs=>?_)
   ·rw[if_neg (by simpa using cs)] at hstep
    refine ai<|za (im Z)<|aa Z<|za (yi (j:=c.toNat) jk Z6 Z Z (by omega) ⟨_,.t2⟩ (by first|rfl|(simp[aD,aN];done)|(simp[aD,aN];omega)) (by omega))<|qb (j:=c.toNat) Z6 Z Z .t2 (by first|omega|(simp;omega))<|z6<|aW<|za (im Z)<|aa Z<|za (y3 (cps:=[(0,[_]),(1,[_])]) (rs:=[_,_]) FX Z Z Z)<|y4 (rows:=[[_,_]]) yW Z Z Z Z Z<|yu (k:=2) Yx type204 Z Z Z Z Z (fun _=>.head) (by rw[qz,tj];show r.length*2+2=(r.length+1)*2;omega) (by decide) Z (by show (r.length+1+1)*16≤_;omega) (by show r.length+1+1≤_;omega)<|fun i80=>za (eD Z)<|z6 ?_
    exact ⟨(k+1,io,i80),eo,⟨(by rw[hstep];rfl),(by rw[hstep];rfl),trivial⟩,⟨_,(.refl _),by rw[hstep,kO,kO];rfl⟩,⟨hk2,hsn⟩,by exact hmn⟩
   ·rw[if_pos (by simpa using cs)] at hstep
    refine zi ?_
    exact ⟨(k+1,io,il),eo,⟨(by rw[hstep];rfl),(by rw[hstep];rfl),trivial⟩,⟨_,(.refl _),by rw[hstep,kO];rfl⟩,⟨hk2,hsn⟩,by exact hmn⟩
end Go.Proofs.YtdilpodccjlkgaaGreatDoor
namespace Go.Proofs.YtdilpodccjlkgaaGreatDoor
open Go.Proofs.Tryz
section
variable {E:World} {P:Program} {n:Nat} {l:List Oper} {W:Nat→Bool} {Q:aR→OL→Prop} {fuel:Nat} {listed:Array Bool} {env:aR} {O Os Om:OL}
theorem bN.many {is:List Nat} (hr:Region.ready .any l.toArray listed=is) (h0:is≠[])
  (h:∀k∈is,∃o,l[k]?=some o∧az P E l.toArray (fun env' Om'=>bN P E l W Q fuel (listed.setIfInBounds k true) env' Os Om') [o] env Om):bN P E l W Q (fuel+1) listed env Os Om:=fun I F ρ w Ls h1 hLs h2=>by
 refine ⟨fun h0'=>absurd (hr.symm.trans h0') h0,fun k hk o2 ho2=>?_⟩
 rw[hr] at hk
 rw[List.getElem?_toArray] at ho2
 obtain ⟨o,e,h⟩:=h k hk
 rw[e] at ho2
 cases ho2
 exact q6 (fun ρ' w' ⟨J,env',Om',a,b,c,d⟩=>by
   have hst:ed I.k Ls E w':=by
    obtain ⟨J',L',h3,h4,h5⟩:=c.here
    exact ⟨J',L',a.k.trans h3,h4,h5⟩
   refine ⟨⟨hst.less,.inr hst⟩,cH.mono ?_ ?_ (fun _ _=>q7 a) _ _ _ _ (d J F ρ' w' Ls b (hLs.mono a) c)⟩
   ·rintro w ⟨J',L',h3,h4⟩;exact ⟨J',L',a.k.trans h3,h4⟩
   ·rintro w ⟨J',L',h3,h4⟩;exact ⟨J',L',a.k.trans h3,h4⟩) _ _ _ (h I (Ls++F) ρ w h1 h2)
theorem bN.four {i j m q:Nat} {o1 o2 o3 o4:Oper} (hi:l[i]?=some o1) (hj:l[j]?=some o2) (hm:l[m]?=some o3) (hq:l[q]?=some o4) (hr:Region.ready .any l.toArray listed=[i,j,m,q])
  (h1:az P E l.toArray (fun env' Om'=>bN P E l W Q fuel (listed.setIfInBounds i true) env' Os Om') [o1] env Om)
  (h2:az P E l.toArray (fun env' Om'=>bN P E l W Q fuel (listed.setIfInBounds j true) env' Os Om') [o2] env Om)
  (h3:az P E l.toArray (fun env' Om'=>bN P E l W Q fuel (listed.setIfInBounds m true) env' Os Om') [o3] env Om)
  (h4:az P E l.toArray (fun env' Om'=>bN P E l W Q fuel (listed.setIfInBounds q true) env' Os Om') [o4] env Om):bN P E l W Q (fuel+1) listed env Os Om:=
 bN.many hr (by simp) fun k hk=>by
  simp only[List.mem_cons,List.not_mem_nil,or_false] at hk
  rcases hk with rfl|rfl|rfl|rfl
  ·exact ⟨_,hi,h1⟩
  ·exact ⟨_,hj,h2⟩
  ·exact ⟨_,hm,h3⟩
  ·exact ⟨_,hq,h4⟩
end
end Go.Proofs.YtdilpodccjlkgaaGreatDoor
namespace Go.Proofs.YtdilpodccjlkgaaGreatDoor
open Go.Proofs.Tryz
def km (l:List Int):List Int:=l.mergeSort fun x y=>decide (x≤y)
theorem eN (l:List Int):(km l).Perm l:=List.mergeSort_perm l _
theorem tk (l:List Int):(km l).Pairwise (·≤·):=by
 have:=List.pairwise_mergeSort (le:=fun x y:Int=>decide (x≤y)) (fun a b c h1 h2=>by simp at *;omega) (fun a b=>by simp;omega) l
 exact this.imp fun h=>by simpa using h
theorem CM {l m:List Int} (hm:m.Pairwise (·<·)):km l=m↔l.Perm m:=by
 constructor
 ·intro h;rw[←h];exact (eN l).symm
 ·intro h
  exact List.Perm.eq_of_pairwise (le:=fun a b:Int=>a≤b) (fun a b _ _ h1 h2=>Int.le_antisymm h1 h2) (tk l) (hm.imp fun h=>Int.le_of_lt h) ((eN l).trans h)
theorem pB {l m:List Int} (hn:l.Nodup) (hs:∀x∈l,x∈m) (hl:m.length≤l.length):l.Perm m:=by
 induction l generalizing m with
 |nil=>obtain rfl:m=[]:=List.eq_nil_of_length_eq_zero (by simpa using hl);exact .refl _
 |cons x l ih=>
  rw[List.nodup_cons] at hn
  have hx:=hs x (.head _)
  have h1:l.Perm (m.erase x):=ih hn.2 (fun y hy=>(List.mem_erase_of_ne (fun e=>hn.1 (by rw[←e];exact hy))).2 (hs y (.tail _ hy))) (by
   rw[List.length_erase_of_mem hx];simp at hl;omega)
  exact (List.Perm.cons x h1).trans (List.perm_cons_erase hx).symm
def yX (f:ac) (i:Nat) (l:List Int):Prop:=(bd (ah f) f.blocks.length i).length=l.length∧∀k (h:k<l.length),(i:Int)∈ah f l[k]∧l[k] ∉ l.take k
theorem pC {l:List Int}:l.Nodup↔∀k (h:k<l.length),l[k] ∉ l.take k:=by
 induction l with
 |nil=>simp
 |cons x l ih=>
  rw[List.nodup_cons,ih]
  constructor
  ·rintro ⟨h1,h2⟩ k hk
   cases k with
   |zero=>simp
   |succ k=>
    simp only[List.getElem_cons_succ,List.take_succ_cons,List.mem_cons,not_or]
    have hk':k<l.length:=by simpa using hk
    exact ⟨fun e=>h1 (by rw[←e];exact qx hk'),h2 k hk'⟩
  ·intro h
   constructor
   ·intro hm
    obtain ⟨k,hk,e⟩:=List.mem_iff_getElem.1 hm
    have:=h (k+1) (by simpa using hk)
    simp[e] at this
   ·intro k hk
    have:=h (k+1) (by simpa using hk)
    simp only[List.getElem_cons_succ,List.take_succ_cons,List.mem_cons,not_or] at this
    exact this.2
theorem AQ {f:ac} (hE:bW f) {i:Nat} {l:List Int}:yX f i l↔l.Perm (bd (ah f) f.blocks.length i):=by
 have hg:=hE.grph
 have hp:=mA (jP f) f.blocks.length i
 unfold yX
 constructor
 ·rintro ⟨h1,h2⟩
  refine pB (pC.2 fun k hk=>(h2 k hk).2) (fun x hx=>?_) (by omega)
  obtain ⟨k,hk,rfl⟩:=List.mem_iff_getElem.1 hx
  exact (jN hg.toEOk hg.out).2 (h2 k hk).1
 ·intro h
  have hn:=h.nodup_iff.2 hp.1
  exact ⟨h.length_eq.symm,fun k hk=>⟨(jN hg.toEOk hg.out).1 (h.mem_iff.1 (qx hk)),pC.1 hn k hk⟩⟩
theorem nc {f:ac} {i:Nat} {l:List Int}:km l=bd (ah f) f.blocks.length i↔l.Perm (bd (ah f) f.blocks.length i):=CM (mA (jP f) f.blocks.length i).2
end Go.Proofs.YtdilpodccjlkgaaGreatDoor
