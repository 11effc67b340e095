/- Joined: by sorting, and one by one; what is single, as truth values. No conditions. -/
import Derived.Test.YtdilpodccjlkgaaGreatDoorHa
import Derived.Test.YtdilpodccjlkgaaGreatDoorHd
import Derived.Test.YtdilpodccjlkgaaGreatDoorHc
import Derived.Test.YtdilpodccjlkgaaGreatDoorHb
set_option linter.unusedVariables false
set_option linter.unusedSimpArgs false
set_option linter.unusedSectionVars false
namespace Go.Proofs.YtdilpodccjlkgaaGreatDoor
open Go.Proofs.Tryz
inductive ir (S:Int→List Int) (p:Int→Prop) (r:Int):Int→Prop
 |refl:p r→ir S p r r
 |step {b c}:ir S p r b→c∈S b→p c→ir S p r c
theorem ir.end_ {S:Int→List Int} {p:Int→Prop} {r b:Int} (h:ir S p r b):p b:=by cases h<;>assumption
theorem ir.start {S:Int→List Int} {p:Int→Prop} {r b:Int} (h:ir S p r b):p r:=by induction h<;>assumption
theorem ir.mono {S:Int→List Int} {p q:Int→Prop} {r b:Int} (hpq:∀x,p x→q x) (h:ir S p r b):ir S q r b:=by
 induction h with
 |refl h=>exact .refl (hpq _ h)
 |step _ h1 h2 ih=>exact .step ih h1 (hpq _ h2)
theorem ir.trans {S:Int→List Int} {p:Int→Prop} {r b c:Int} (h:ir S p r b) (k:ir S p b c):ir S p r c:=by
 induction k with
 |refl _=>exact h
 |step _ h1 h2 ih=>exact .step ih h1 h2
theorem ir.self {S:Int→List Int} {p:Int→Prop} {r b:Int} (h:ir S p r b):ir S (fun x=>p x∧ir S p r x) r b:=by
 induction h with
 |refl h=>exact .refl ⟨h,.refl h⟩
 |step h0 h1 h2 ih=>exact .step ih h1 ⟨h2,.step h0 h1 h2⟩
theorem ir.last {S:Int→List Int} {p:Int→Prop} {r b:Int} (h:ir S p r b):b=r∨∃c,c∈S r∧ir S (fun x=>p x∧x≠r) c b:=by
 induction h with
 |refl h=>exact .inl rfl
 |@step b c h0 h1 h2 ih=>
  by_cases hc:c=r
  ·exact .inl hc
  ·right
   rcases ih with rfl|⟨d,hd,hw⟩
   ·exact ⟨c,h1,.refl ⟨h2,hc⟩⟩
   ·exact ⟨d,hd,.step hw h1 ⟨h2,hc⟩⟩
inductive gd (S:Int→List Int) (at_:Int→Int) (p:Int→Prop) (r:Int):Nat→Int→Prop
 |refl {k}:p r→gd S at_ p r k r
 |fwd {k b c}:gd S at_ p r k b→c∈S b→at_ b<at_ c→p c→gd S at_ p r k c
 |back {k b c}:gd S at_ p r k b→c∈S b→p c→gd S at_ p r (k+1) c
theorem gd.end_ {S:Int→List Int} {at_:Int→Int} {p:Int→Prop} {r b:Int} {k:Nat} (h:gd S at_ p r k b):p b:=by cases h<;>assumption
theorem gd.way {S:Int→List Int} {at_:Int→Int} {p:Int→Prop} {r b:Int} {k:Nat} (h:gd S at_ p r k b):ir S p r b:=by
 induction h with
 |refl h=>exact .refl h
 |fwd _ h1 _ h2 ih=>exact .step ih h1 h2
 |back _ h1 h2 ih=>exact .step ih h1 h2
theorem gd.ahead {S:Int→List Int} {at_:Int→Int} {p q:Int→Prop} {r c b:Int} {k:Nat} (h:gd S at_ q c k b) (hqp:∀x,q x→p x) (hr:p r) (hc:c∈S r):gd S at_ p r (k+1) b:=by
 induction h with
 |refl h=>exact .back (.refl hr) hc (hqp _ h)
 |fwd _ h1 h2 h3 ih=>exact .fwd ih h1 h2 (hqp _ h3)
 |back _ h1 h2 ih=>exact .back ih h1 (hqp _ h2)
theorem ir.short {S:Int→List Int} (at_:Int→Int):∀(n:Nat) (V:List Int) (p:Int→Prop) (r b:Int),V.length=n→(∀x,p x→x∈V)→ir S p r b→∃k,k+1≤n∧gd S at_ p r k b
 |0,V,p,r,b,hl,hV,h=>by
  have:=hV _ h.start
  rw[List.eq_nil_of_length_eq_zero hl] at this;cases this
 |n+1,V,p,r,b,hl,hV,h=>by
  rcases h.last with rfl|⟨c,hc,hw⟩
  ·exact ⟨0,by omega,.refl h.start⟩
  ·have hr:=hV _ h.start
   obtain ⟨k,hk,hb⟩:=ir.short at_ n (V.erase r) (fun x=>p x∧x≠r) c b (by rw[List.length_erase_of_mem hr,hl];rfl) (fun x hx=>(List.mem_erase_of_ne hx.2).2 (hV x hx.1)) hw
   exact ⟨k+1,by omega,hb.ahead (fun x hx=>hx.1) h.start hc⟩
def re (S:Int→List Int) (b:Int):Prop:=ir S (fun _=>True) 0 b
def gF (S:Int→List Int) (a b:Int):Prop:=re S b∧¬ir S (fun x=>x≠a) 0 b
section
variable {S:Int→List Int}
theorem gF.refl {b:Int} (h:re S b):gF S b b:=⟨h,fun hw=>hw.end_ rfl⟩
theorem gF.root {b:Int} (h:re S b):gF S 0 b:=⟨h,fun hw=>hw.start rfl⟩
theorem gF.rch {a b:Int} (h:gF S a b):re S a:=by
 refine Classical.byContradiction fun hn=>h.2 ?_
 exact (ir.self h.1).mono fun x hx e=>hn (e▸hx.2)
theorem gF.trans {a b c:Int} (h:gF S a b) (k:gF S b c):gF S a c:=by
 refine ⟨k.1,fun hw=>?_⟩
 refine k.2<|hw.self.mono fun x hx e=>?_
 subst e
 exact h.2 hx.2
theorem gF.pred {a b p:Int} (h:gF S a b) (hp:re S p) (he:b∈S p) (hab:a≠b):gF S a p:=
 ⟨hp,fun hw=>h.2 (.step hw he (fun e=>hab e.symm))⟩
theorem gF.of_preds {a b:Int} (hb:re S b) (h0:b≠0) (h:∀p,re S p→b∈S p→gF S a p):gF S a b:=by
 refine ⟨hb,fun hw=>?_⟩
 cases hw with
 |refl _=>exact h0 rfl
 |step h1 h2 h3=>exact (h _ (h1.mono fun _ _=>trivial) h2).2 h1
end
inductive f9 (N:Int→Int):Int→Int→Prop
 |refl (x):f9 N x x
 |up {x a}:x≠0→N x≠-1→f9 N (N x) a→f9 N x a
theorem f9.trans {N:Int→Int} {x y z:Int} (h:f9 N x y) (k:f9 N y z):f9 N x z:=by
 induction h with
 |refl=>exact k
 |up h1 h2 _ ih=>exact .up h1 h2 (ih k)
theorem f9.cases' {N:Int→Int} {x a:Int} (h:f9 N x a):a=x∨(x≠0∧N x≠-1∧f9 N (N x) a):=by
 cases h with
 |refl=>exact .inl rfl
 |up h1 h2 h3=>exact .inr ⟨h1,h2,h3⟩
structure pU (S:Int→List Int) (at_:Int→Int) (V:List Int):Prop where
 mem:∀b,b∈V↔re S b
 pos:∀b,b∈V↔0≤at_ b
 inj:∀a b,a∈V→b∈V→at_ a=at_ b→a=b
 zero:at_ 0=0
 fwd:∀b,b∈V→b≠0→∃p,p∈V∧b∈S p∧at_ p<at_ b
 none:∀b,b ∉ V→at_ b=-1
 nn:∀b,b∈V→0≤b
structure ie (S:Int→List Int) (at_:Int→Int) (V:List Int) (N:Int→Int):Prop where
 zero:N 0=0
 mem:∀b,N b≠-1→b∈V
 near:∀b,b≠0→N b≠-1→N b∈V∧N (N b)≠-1∧at_ (N b)<at_ b
 path:∀b,b≠0→N b≠-1→ir S (fun x=>at_ (N b)≤at_ x) (N b) b
 dom:∀b d,N b≠-1→gF S d b→f9 N b d
section
variable {S:Int→List Int} {at_:Int→Int} {V:List Int} {N:Int→Int}
theorem pU.zmem (hV:pU S at_ V):(0:Int)∈V:=(hV.mem 0).2 (.refl trivial)
theorem ie.anc (hN:ie S at_ V N) {x a:Int} (hx:N x≠-1) (h:f9 N x a):N a≠-1∧at_ a≤at_ x∧ir S (fun y=>at_ a≤at_ y) a x:=by
 induction h with
 |refl x=>exact ⟨hx,Int.le_refl _,.refl (Int.le_refl _)⟩
 |@up x a h1 h2 h3 ih=>
  obtain ⟨g1,g2,g3⟩:=hN.near x h1 h2
  obtain ⟨i1,i2,i3⟩:=ih g2
  refine ⟨i1,by omega,i3.trans ((hN.path x h1 h2).mono fun y hy=>by omega)⟩
theorem ie.antisymm (hV:pU S at_ V) (hN:ie S at_ V N) {x a:Int} (hx:N x≠-1) (h:f9 N x a) (e:at_ x≤at_ a):a=x:=by
 rcases h.cases' with h|⟨h1,h2,h3⟩
 ·exact h
 ·have g:=hN.near x h1 h2
  have:=(hN.anc g.2.1 h3).2.1
  omega
def dR (N at_:Int→Int):Nat→Int→Int→Int
 |0,a,_=>a
 |k+1,a,b=>if a=b then a else if at_ b<at_ a then dR N at_ k (N a) b else dR N at_ k a (N b)
theorem l8 (hV:pU S at_ V) (hN:ie S at_ V N):∀(k:Nat) (a b:Int),N a≠-1→N b≠-1→at_ a+at_ b<k→N (dR N at_ k a b)≠-1∧∀x,f9 N (dR N at_ k a b) x↔f9 N a x∧f9 N b x
 |0,a,b,ha,hb,hk=>by
  have h1:=(hV.pos a).1 (hN.mem a ha)
  have h2:=(hV.pos b).1 (hN.mem b hb)
  exact absurd hk (by omega)
 |k+1,a,b,ha,hb,hk=>by
  have h1:=(hV.pos a).1 (hN.mem a ha)
  have h2:=(hV.pos b).1 (hN.mem b hb)
  unfold dR
  by_cases hab:a=b
  ·rw[if_pos hab];subst hab;exact ⟨ha,fun x=>⟨fun h=>⟨h,h⟩,fun h=>h.1⟩⟩
  ·rw[if_neg hab]
   by_cases hlt:at_ b<at_ a
   ·rw[if_pos hlt]
    have ha0:a≠0:=fun e=>by rw[e,hV.zero] at hlt;omega
    obtain ⟨g1,g2,g3⟩:=hN.near a ha0 ha
    obtain ⟨i1,i2⟩:=l8 hV hN k (N a) b g2 hb (by omega)
    refine ⟨i1,fun x=>(i2 x).trans ⟨fun h=>⟨.up ha0 ha h.1,h.2⟩,fun h=>⟨?_,h.2⟩⟩⟩
    rcases h.1.cases' with rfl|⟨_,_,h3⟩
    ·have:=(hN.anc hb h.2).2.1;omega
    ·exact h3
   ·rw[if_neg hlt]
    have hlt2:at_ a<at_ b:=by
     have:at_ a≠at_ b:=fun e=>hab (hV.inj a b (hN.mem a ha) (hN.mem b hb) e)
     omega
    have hb0:b≠0:=fun e=>by rw[e,hV.zero] at hlt2;omega
    obtain ⟨g1,g2,g3⟩:=hN.near b hb0 hb
    obtain ⟨i1,i2⟩:=l8 hV hN k a (N b) ha g2 (by omega)
    refine ⟨i1,fun x=>(i2 x).trans ⟨fun h=>⟨h.1,.up hb0 hb h.2⟩,fun h=>⟨h.1,?_⟩⟩⟩
    rcases h.2.cases' with rfl|⟨_,_,h3⟩
    ·have:=(hN.anc ha h.1).2.1;omega
    ·exact h3
theorem kR (hV:pU S at_ V) (hN:ie S at_ V N):∀(k j:Nat) (a b:Int),N a≠-1→N b≠-1→at_ a+at_ b<k→k≤j→dR N at_ j a b=dR N at_ k a b
 |0,j,a,b,ha,hb,hk,_=>by
  have h1:=(hV.pos a).1 (hN.mem a ha)
  have h2:=(hV.pos b).1 (hN.mem b hb)
  exact absurd hk (by omega)
 |k+1,0,_,_,_,_,_,hj=>by omega
 |k+1,j+1,a,b,ha,hb,hk,hj=>by
  have h1:=(hV.pos a).1 (hN.mem a ha)
  have h2:=(hV.pos b).1 (hN.mem b hb)
  unfold dR
  by_cases hab:a=b
  ·rw[if_pos hab,if_pos hab]
  ·rw[if_neg hab,if_neg hab]
   by_cases hlt:at_ b<at_ a
   ·rw[if_pos hlt,if_pos hlt]
    have ha0:a≠0:=fun e=>by rw[e,hV.zero] at hlt;omega
    obtain ⟨g1,g2,g3⟩:=hN.near a ha0 ha
    exact kR hV hN k j (N a) b g2 hb (by omega) (by omega)
   ·rw[if_neg hlt,if_neg hlt]
    have hlt2:at_ a<at_ b:=by
     have:at_ a≠at_ b:=fun e=>hab (hV.inj a b (hN.mem a ha) (hN.mem b hb) e)
     omega
    have hb0:b≠0:=fun e=>by rw[e,hV.zero] at hlt2;omega
    obtain ⟨g1,g2,g3⟩:=hN.near b hb0 hb
    exact kR hV hN k j a (N b) ha g2 (by omega) (by omega)
def fI (N at_:Int→Int) (K:Nat):List Int→Int→Int
 |[],m=>m
 |p::ps,m=>fI N at_ K ps (if at_ p=-1∨N p=-1 then m else if m=-1 then p else dR N at_ K m p)
theorem oB (hV:pU S at_ V) (hN:ie S at_ V N) {K:Nat} (hK:∀a b,a∈V→b∈V→at_ a+at_ b<K):∀(ps:List Int) (m:Int),N m≠-1 →
  N (fI N at_ K ps m)≠-1∧∀x,f9 N (fI N at_ K ps m) x↔f9 N m x∧∀p∈ps,N p≠-1→f9 N p x
 |[],m,hm=>⟨hm,fun x=>by simp[fI]⟩
 |p::ps,m,hm=>by
  unfold fI
  by_cases hp:at_ p=-1∨N p=-1
  ·rw[if_pos hp]
   have hp1:N p=-1:=by
    rcases hp with hp|hp
    ·exact Classical.byContradiction fun h=>by have:=(hV.pos p).1 (hN.mem p h);omega
    ·exact hp
   obtain ⟨i1,i2⟩:=oB hV hN hK ps m hm
   refine ⟨i1,fun x=>(i2 x).trans ⟨fun h=>⟨h.1,fun q hq hqn=>?_⟩,fun h=>⟨h.1,fun q hq=>h.2 q (.tail _ hq)⟩⟩⟩
   rcases List.mem_cons.1 hq with rfl|hq
   ·exact absurd hp1 hqn
   ·exact h.2 q hq hqn
  ·rw[if_neg hp]
   have hp1:N p≠-1:=fun e=>hp (.inr e)
   have hm0:m≠-1:=fun e=>by
    have h1:=hV.nn m (hN.mem m hm)
    omega
   rw[if_neg hm0]
   obtain ⟨j1,j2⟩:=l8 hV hN K m p hm hp1 (hK _ _ (hN.mem _ hm) (hN.mem _ hp1))
   obtain ⟨i1,i2⟩:=oB hV hN hK ps _ j1
   refine ⟨i1,fun x=>(i2 x).trans ⟨fun h=>⟨((j2 x).1 h.1).1,fun q hq hqn=>?_⟩,fun h=>⟨(j2 x).2 ⟨h.1,h.2 p (.head _) hp1⟩,fun q hq=>h.2 q (.tail _ hq)⟩⟩⟩
   rcases List.mem_cons.1 hq with rfl|hq
   ·exact ((j2 x).1 h.1).2
   ·exact h.2 q hq hqn
theorem rh (hV:pU S at_ V) (hN:ie S at_ V N) {K:Nat} (hK:∀a b,a∈V→b∈V→at_ a+at_ b<K):∀(ps:List Int),(∃p∈ps,N p≠-1) →
  N (fI N at_ K ps (-1))≠-1∧∀x,f9 N (fI N at_ K ps (-1)) x↔∀p∈ps,N p≠-1→f9 N p x
 |[],h=>by obtain ⟨_,h,_⟩:=h;cases h
 |p::ps,h=>by
  unfold fI
  by_cases hp:at_ p=-1∨N p=-1
  ·rw[if_pos hp]
   have hp1:N p=-1:=by
    rcases hp with hp|hp
    ·exact Classical.byContradiction fun h=>by have:=(hV.pos p).1 (hN.mem p h);omega
    ·exact hp
   obtain ⟨i1,i2⟩:=rh hV hN hK ps (by
    obtain ⟨q,hq,hqn⟩:=h
    rcases List.mem_cons.1 hq with rfl|hq
    ·exact absurd hp1 hqn
    ·exact ⟨q,hq,hqn⟩)
   refine ⟨i1,fun x=>(i2 x).trans ⟨fun h q hq hqn=>?_,fun h q hq=>h q (.tail _ hq)⟩⟩
   rcases List.mem_cons.1 hq with rfl|hq
   ·exact absurd hp1 hqn
   ·exact h q hq hqn
  ·rw[if_neg hp,if_pos rfl]
   have hp1:N p≠-1:=fun e=>hp (.inr e)
   obtain ⟨i1,i2⟩:=oB hV hN hK ps p hp1
   refine ⟨i1,fun x=>(i2 x).trans ⟨fun h q hq hqn=>?_,fun h=>⟨h p (.head _) hp1,fun q hq=>h q (.tail _ hq)⟩⟩⟩
   rcases List.mem_cons.1 hq with rfl|hq
   ·exact h.1
   ·exact h.2 q hq hqn
def ig (N:Int→Int) (b m:Int):Int→Int:=fun x=>if x=b then m else N x
theorem gu (N:Int→Int) (b m:Int):ig N b m b=m:=by simp[ig]
theorem em {N:Int→Int} {b m x:Int} (h:x≠b):ig N b m x=N x:=by simp[ig,h]
structure jO (S:Int→List Int) (at_:Int→Int) (V:List Int) (N:Int→Int) (b m:Int):Prop where
 mem:b∈V
 ne:b≠0
 has:N m≠-1
 anc:∀x,f9 N m x↔∀p,b∈S p→N p≠-1→f9 N p x
 fwd:∃p,b∈S p∧N p≠-1∧at_ p<at_ b
variable {b m:Int}
theorem jO.lt (hN:ie S at_ V N) (h:jO S at_ V N b m):at_ m<at_ b:=by
 obtain ⟨p,h1,h2,h3⟩:=h.fwd
 have:=(hN.anc h2 ((h.anc m).1 (.refl _) p h1 h2)).2.1
 omega
theorem jO.mne (hN:ie S at_ V N) (h:jO S at_ V N b m):m≠b:=fun e=>by have:=h.lt hN;rw[e] at this;omega
theorem wW (hN:ie S at_ V N) {x a:Int} (hx:N x≠-1) (hlt:at_ x<at_ b):f9 (ig N b m) x a↔f9 N x a:=by
 constructor
 ·intro h
  induction h with
  |refl=>exact .refl _
  |@up x a h1 h2 h3 ih=>
   have hne:x≠b:=fun e=>by rw[e] at hlt;omega
   rw[em hne] at h2 h3 ih
   have:=hN.near x h1 hx
   exact .up h1 hx (ih this.2.1 (by omega))
 ·intro h
  induction h with
  |refl=>exact .refl _
  |@up x a h1 h2 h3 ih=>
   have hne:x≠b:=fun e=>by rw[e] at hlt;omega
   have:=hN.near x h1 hx
   exact .up h1 (by rw[em hne];exact hx) (by rw[em hne];exact ih this.2.1 (by omega))
theorem EL {x a:Int} (h:f9 N x a):f9 (ig N b m) x a∨(f9 (ig N b m) x b∧f9 N x b∧f9 N b a):=by
 induction h with
 |refl=>exact .inl (.refl _)
 |@up x a h1 h2 h3 ih=>
  by_cases hxb:x=b
  ·subst hxb;exact .inr ⟨.refl _,.refl _,.up h1 h2 h3⟩
  ·rcases ih with h|⟨h,h',h''⟩
   ·exact .inl (.up h1 (by rw[em hxb];exact h2) (by rw[em hxb];exact h))
   ·exact .inr ⟨.up h1 (by rw[em hxb];exact h2) (by rw[em hxb];exact h),.up h1 h2 h',h''⟩
theorem A6 {x a:Int} (h:f9 (ig N b m) x a):f9 N x a∨(f9 N x b∧f9 (ig N b m) b a):=by
 induction h with
 |refl=>exact .inl (.refl _)
 |@up x a h1 h2 h3 ih=>
  by_cases hxb:x=b
  ·subst hxb;exact .inr ⟨.refl _,.up h1 h2 h3⟩
  ·rw[em hxb] at h2 ih
   rcases ih with h|⟨h,h'⟩
   ·exact .inl (.up h1 h2 h)
   ·exact .inr ⟨.up h1 h2 h,h'⟩
theorem jO.up (hV:pU S at_ V) (hN:ie S at_ V N) (h:jO S at_ V N b m) {a:Int}:f9 (ig N b m) b a↔a=b∨f9 N m a:=by
 have hl:=h.lt hN
 have hm1:m≠-1:=fun e=>by have:=hV.nn m (hN.mem m h.has);omega
 constructor
 ·intro ha
  rcases ha.cases' with e|⟨_,_,h3⟩
  ·exact .inl e
  ·rw[gu] at h3;exact .inr ((wW hN h.has hl).1 h3)
 ·rintro (e|h3)
  ·subst e;exact .refl _
  ·exact .up h.ne (by rw[gu];exact hm1) (by rw[gu];exact (wW hN h.has hl).2 h3)
theorem ie.set (hV:pU S at_ V) (hN:ie S at_ V N) (h:jO S at_ V N b m):ie S at_ V (ig N b m):=by
 have hl:=h.lt hN
 have hmb:=h.mne hN
 have hm1:m≠-1:=fun e=>by have:=hV.nn m (hN.mem m h.has);omega
 have hset:∀x,N x≠-1→ig N b m x≠-1:=fun x hx=>by
  unfold ig;split
  ·exact hm1
  ·exact hx
 refine ⟨by rw[em h.ne.symm];exact hN.zero,fun x hx=>?_,fun x h0 hx=>?_,fun x h0 hx=>?_,fun x d hx hd=>?_⟩
 ·by_cases e:x=b
  ·subst e;exact h.mem
  ·rw[em e] at hx;exact hN.mem x hx
 ·by_cases e:x=b
  ·subst e;rw[gu];exact ⟨hN.mem m h.has,hset m h.has,hl⟩
  ·rw[em e] at hx ⊢
   have:=hN.near x h0 hx
   exact ⟨this.1,hset _ this.2.1,this.2.2⟩
 ·by_cases e:x=b
  ·subst e;rw[gu]
   obtain ⟨p,h1,h2,h3⟩:=h.fwd
   have:=(hN.anc h2 ((h.anc m).1 (.refl _) p h1 h2)).2.2
   exact .step this h1 (by omega)
  ·rw[em e] at hx ⊢;exact hN.path x h0 hx
 ·have hb:∀d,gF S d b→f9 (ig N b m) b d:=fun d hd=>(h.up hV hN).2 (by
   by_cases e:d=b
   ·exact .inl e
   ·exact .inr ((h.anc d).2 fun p hp hpn=>hN.dom p d hpn (hd.pred ((hV.mem p).1 (hN.mem p hpn)) hp e)))
  by_cases e:x=b
  ·subst e;exact hb d hd
  ·rw[em e] at hx
   rcases EL (b:=b) (m:=m) (hN.dom x d hx hd) with h1|⟨h1,h2,h3⟩
   ·exact h1
   ·refine h1.trans (hb d ?_)
    have hx2:=hN.anc hx h2
    by_cases hdb:d=b
    ·subst hdb;exact .refl ((hV.mem d).1 h.mem)
    ·refine ⟨(hV.mem b).1 h.mem,fun hw=>?_⟩
     have hlt:at_ d<at_ b:=by
      rcases Int.lt_or_le (at_ d) (at_ b) with g|g
      ·exact g
      ·exact absurd (hN.antisymm hV hx2.1 h3 g) hdb
     exact hd.2 (hw.trans (hx2.2.2.mono fun y hy e=>by subst e;omega))
end
end Go.Proofs.YtdilpodccjlkgaaGreatDoor
namespace Go.Proofs.YtdilpodccjlkgaaGreatDoor
open Go.Proofs.Tryz
section
variable {S:Int→List Int} {at_:Int→Int} {V:List Int} {N:Int→Int} {b m:Int}
theorem gd.le {p:Int→Prop} {r x:Int} {k j:Nat} (h:gd S at_ p r k x) (hj:k≤j):gd S at_ p r j x:=by
 induction h generalizing j with
 |refl h=>exact .refl h
 |fwd _ h1 h2 h3 ih=>exact .fwd (ih hj) h1 h2 h3
 |back _ h1 h2 ih=>
  obtain ⟨i,rfl⟩:∃i,j=i+1:=⟨j - 1,by omega⟩
  exact .back (ih (by omega)) h1 h2
theorem gd.by_ {p:Int→Prop} {r x:Int} {k:Nat} (b:Int) (h:gd S at_ p r k x):gd S at_ (fun y=>p y∧y≠b) r k x∨gd S at_ p r k b:=by
 induction h with
 |@refl k h=>
  by_cases e:r=b
  ·subst e;exact .inr (.refl h)
  ·exact .inl (.refl ⟨h,e⟩)
 |@fwd k c d h0 h1 h2 h3 ih=>
  rcases ih with ih|ih
  ·by_cases e:d=b
   ·subst e;exact .inr (.fwd h0 h1 h2 h3)
   ·exact .inl (.fwd ih h1 h2 ⟨h3,e⟩)
  ·exact .inr ih
 |@back k c d h0 h1 h2 ih=>
  rcases ih with ih|ih
  ·by_cases e:d=b
   ·subst e;exact .inr (.back h0 h1 h2)
   ·exact .inl (.back ih h1 ⟨h2,e⟩)
  ·exact .inr (ih.le (by omega))
theorem gd.mono {p q:Int→Prop} {r x:Int} {k:Nat} (hpq:∀y,p y→q y) (h:gd S at_ p r k x):gd S at_ q r k x:=by
 induction h with
 |refl h=>exact .refl (hpq _ h)
 |fwd _ h1 h2 h3 ih=>exact .fwd ih h1 h2 (hpq _ h3)
 |back _ h1 h2 ih=>exact .back ih h1 (hpq _ h2)
def PB (S:Int→List Int) (at_:Int→Int) (N:Int→Int) (j:Nat) (x:Int):Prop:=∀i,i<j→∀a,f9 N x a→¬gd S at_ (fun y=>y≠a) 0 i x
theorem PB.zero (x:Int):PB S at_ N 0 x:=fun i hi=>by omega
theorem PB.root (j:Nat):PB S at_ N j 0:=fun i _ a ha hw=>by
 rcases ha.cases' with rfl|⟨h,_,_⟩
 ·exact hw.end_ rfl
 ·exact h rfl
structure l9 (S:Int→List Int) (at_:Int→Int) (V:List Int) (N:Int→Int) (j:Nat) (t:Int):Prop where
 inv:ie S at_ V N
 has:∀x,x∈V→(at_ x<t∨1≤j)→N x≠-1
 done:∀x,x∈V→at_ x<t→PB S at_ N (j+1) x
 all:∀x,x∈V→PB S at_ N j x
theorem A7 (hV:pU S at_ V) {p:Int→Prop} {x:Int} {k:Nat} (h:gd S at_ p 0 k x):x∈V:=(hV.mem x).2 (h.way.mono fun _ _=>trivial)
theorem l9.self (hV:pU S at_ V) {j:Nat} (h:l9 S at_ V N j (at_ b)) (hM:jO S at_ V N b m):PB S at_ (ig N b m) (j+1) b:=fun i hi a ha hw=>by
 rcases (hM.up hV h.inv).1 ha with e|ha
 ·exact hw.end_ e.symm
 ·cases hw with
  |refl _=>exact hM.ne rfl
  |@fwd _ p _ h1 h2 h3 h4=>
   have hp:=A7 hV h1
   have hpn:=h.has p hp (.inl h3)
   exact h.done p hp h3 i hi a ((hM.anc a).1 ha p h2 hpn) h1
  |@back k p _ h1 h2 h3=>
   have hp:=A7 hV h1
   have hpn:=h.has p hp (.inr (by omega))
   exact h.all p hp k (by omega) a ((hM.anc a).1 ha p h2 hpn) h1
theorem l9.other (hV:pU S at_ V) {j:Nat} (h:l9 S at_ V N j (at_ b)) (hM:jO S at_ V N b m) {x:Int} {k:Nat} (hk:k≤j+1) (hx:PB S at_ N k x):PB S at_ (ig N b m) k x:=fun i hi a ha hw=>by
 rcases A6 ha with h1|⟨h1,h2⟩
 ·exact hx i hi a h1 hw
 ·rcases hw.by_ b with h3|h3
  ·exact hx i hi b h1 (h3.mono fun y hy=>hy.2)
  ·exact h.self hV hM i (by omega) a h2 h3
theorem l9.step (hV:pU S at_ V) {j:Nat} (h:l9 S at_ V N j (at_ b)) (hM:jO S at_ V N b m):l9 S at_ V (ig N b m) j (at_ b+1):=by
 have hm1:m≠-1:=fun e=>by have:=hV.nn m (h.inv.mem m hM.has);omega
 refine ⟨h.inv.set hV hM,fun x hx hc=>?_,fun x hx hc=>?_,fun x hx=>h.other hV hM (by omega) (h.all x hx)⟩
 ·by_cases e:x=b
  ·subst e;rw[gu];exact hm1
  ·rw[em e]
   refine h.has x hx ?_
   rcases hc with hc|hc
   ·left
    have:at_ x≠at_ b:=fun e2=>e (hV.inj x b hx hM.mem e2)
    omega
   ·exact .inr hc
 ·by_cases e:x=b
  ·subst e;exact h.self hV hM
  ·have:at_ x≠at_ b:=fun e2=>e (hV.inj x b hx hM.mem e2)
   exact h.other hV hM (Nat.le_refl _) (h.done x hx (by omega))
theorem l9.next (hV:pU S at_ V) {j:Nat} {t:Int} (h:l9 S at_ V N j t) (ht:∀x,x∈V→at_ x<t):l9 S at_ V N (j+1) 1:=
 ⟨h.inv,fun x hx _=>h.has x hx (.inl (ht x hx)),fun x hx h1=>by
  have:x=0:=hV.inj x 0 hx hV.zmem (by rw[hV.zero];have:=(hV.pos x).1 hx;omega)
  subst this;exact PB.root _,fun x hx=>h.done x hx (ht x hx)⟩
theorem l9.first (hV:pU S at_ V):l9 S at_ V (fun x=>if x=0 then 0 else -1) 0 1:=by
 have hN:ie S at_ V (fun x=>if x=0 then 0 else -1):=by
  refine ⟨by simp,fun x hx=>?_,fun x h0 hx=>?_,fun x h0 hx=>?_,fun x d hx hd=>?_⟩
  ·by_cases e:x=0
   ·rw[e];exact hV.zmem
   ·simp[e] at hx
  ·simp[h0] at hx
  ·simp[h0] at hx
  ·by_cases e:x=0
   ·subst e
    have:d=0:=Classical.byContradiction fun hd0=>hd.2 (.refl (fun e=>hd0 e.symm))
    subst this;exact .refl _
   ·simp[e] at hx
 refine ⟨hN,fun x hx hc=>?_,fun x hx h1=>?_,fun x hx=>PB.zero x⟩
 ·rcases hc with hc|hc
  ·have:x=0:=hV.inj x 0 hx hV.zmem (by rw[hV.zero];have:=(hV.pos x).1 hx;omega)
   simp[this]
  ·omega
 ·have:x=0:=hV.inj x 0 hx hV.zmem (by rw[hV.zero];have:=(hV.pos x).1 hx;omega)
  subst this;exact PB.root _
structure jP (S:Int→List Int) (at_:Int→Int) (V:List Int) (N:Int→Int):Prop where
 inv:ie S at_ V N
 has:∀x,x∈V→N x≠-1
 anc:∀x a,x∈V→(f9 N x a↔gF S a x)
theorem l9.exact (hV:pU S at_ V) {j:Nat} {t:Int} (h:l9 S at_ V N j t) (hj:V.length≤j):jP S at_ V N:=by
 have h1:1≤j:=by
  have:0<V.length:=List.length_pos_of_mem hV.zmem
  omega
 refine ⟨h.inv,fun x hx=>h.has x hx (.inr h1),fun x a hx=>⟨fun ha=>?_,fun hd=>h.inv.dom x a (h.has x hx (.inr h1)) hd⟩⟩
 refine ⟨(hV.mem x).1 hx,fun hw=>?_⟩
 obtain ⟨k,hk,hb⟩:=ir.short at_ V.length V (fun y=>y≠a∧ir S (fun y=>y≠a) 0 y) 0 x rfl (fun y hy=>(hV.mem y).2 (hy.2.mono fun _ _=>trivial)) hw.self
 exact h.all x hx k (by omega) a ha (hb.mono fun y hy=>hy.1)
theorem jP.still (hV:pU S at_ V) (h:jP S at_ V N) (hM:jO S at_ V N b m):m=N b:=by
 have hb:=h.has b hM.mem
 obtain ⟨g1,g2,g3⟩:=h.inv.near b hM.ne hb
 have hl:=hM.lt h.inv
 have h1:f9 N m (N b):=(hM.anc _).2 fun p hp hpn=>by
  have hd:gF S (N b) b:=(h.anc b (N b) hM.mem).1 (.up hM.ne hb (.refl _))
  have hp2:=h.inv.mem p hpn
  exact (h.anc p (N b) hp2).2 (hd.pred ((hV.mem p).1 hp2) hp (fun e=>by rw[e] at g3;omega))
 have h2:f9 N b m:=(h.anc b m hM.mem).2 (gF.of_preds ((hV.mem b).1 hM.mem) hM.ne fun p hp he=>by
  have hp2:=(hV.mem p).2 hp
  exact (h.anc p m hp2).1 ((hM.anc m).1 (.refl _) p he (h.has p hp2)))
 rcases h2.cases' with e|⟨_,_,h3⟩
 ·rw[e] at hl;omega
 ·have l1:=(h.inv.anc hM.has h1).2.1
  exact h.inv.antisymm hV g2 h3 (by omega)
end
end Go.Proofs.YtdilpodccjlkgaaGreatDoor
namespace Go.Proofs.YtdilpodccjlkgaaGreatDoor
open Go.Proofs.Tryz
def gi (l:List Int) (x:Int):Int:=if 0≤x then (l[x.toNat]?).getD (-1) else -1
theorem A8 (l:List Int) (k:Nat):gi l (k:Int)=(l[k]?).getD (-1):=by unfold gi;rw[if_pos (by omega)];rfl
theorem fN {l:List Int} {x:Int} (h0:0≤x) (h:x.toNat<l.length):l[x.toNat]?=some (gi l x):=by
 unfold gi;rw[if_pos h0,qk h];rfl
theorem sf {l:List Int} {b:Int} (h0:0≤b) (h:b.toNat<l.length) (m:Int):gi (l.set b.toNat m)=ig (gi l) b m:=by
 funext x
 unfold gi ig
 by_cases hx:0≤x
 ·rw[if_pos hx]
  by_cases e:x=b
  ·subst e;rw[if_pos rfl,List.getElem?_set_self h];rfl
  ·rw[if_neg e,List.getElem?_set_ne (by omega)];dsimp only;rw[if_pos hx]
 ·rw[if_neg hx,if_neg (by omega)];dsimp only;rw[if_neg hx]
theorem vz {l:List Int} {x:Int} (h:x<0∨(l.length:Int)≤x):gi l x=-1:=by
 unfold gi
 split
 ·rw[List.getElem?_eq_none (by omega)];rfl
 ·rfl
theorem EM {l m:List Int} (hl:l.length=m.length) (h:∀x,gi l x=gi m x):l=m:=by
 refine List.ext_getElem hl fun k h1 h2=>?_
 have:=h (k:Int)
 rw[A8,A8,qk h1,qk h2] at this
 simpa using this
theorem tG {l:List Int} {b:Int} (h0:0≤b):l.set b.toNat (gi l b)=l:=by
 by_cases h:b.toNat<l.length
 ·have:=fN h0 h
  refine List.ext_getElem? fun k=>?_
  by_cases e:k=b.toNat
  ·subst e;rw[List.getElem?_set_self h,this]
  ·rw[List.getElem?_set_ne (fun e2=>e e2.symm)]
 ·exact List.set_eq_of_length_le (by omega)
def dT (n:Nat) (V:List Int):List Int:=(V.zipIdx).foldl (fun l p=>l.set p.1.toNat (p.2:Int)) (List.replicate n (-1))
def iB (at_:List Int) (K:Nat) (preds:Int→List Int) (l:List Int) (b:Int):List Int:=l.set b.toNat (fI (gi l) (gi at_) K (preds b) (-1))
def ri (at_:List Int) (K:Nat) (preds:Int→List Int) (V:List Int) (l:List Int):List Int:=V.tail.foldl (iB at_ K preds) l
def passN (at_:List Int) (K:Nat) (preds:Int→List Int) (V:List Int) (l:List Int):Nat→List Int
 |0=>l
 |k+1=>ri at_ K preds V (passN at_ K preds V l k)
def e8 (n:Nat):List Int:=(List.replicate n (-1)).set 0 0
structure mB (S:Int→List Int) (at_:List Int) (V:List Int) (preds:Int→List Int) (n:Nat):Prop where
 ord:pU S (gi at_) V
 lt:∀b∈V,b<n
 row:∀(k:Nat),k<V.length→gi at_ (V[k]?.getD 0)=k
 preds:∀b∈V,∀p,p∈preds b↔b∈S p
section
variable {S:Int→List Int} {at_ V:List Int} {preds:Int→List Int} {n:Nat}
theorem mB.pos (h:mB S at_ V preds n):0<V.length:=List.length_pos_of_mem h.ord.zmem
theorem mB.at_lt (h:mB S at_ V preds n) {b:Int} (hb:b∈V):∃k,k<V.length∧V[k]?=some b∧gi at_ b=k:=by
 obtain ⟨k,hk,e⟩:=List.mem_iff_getElem.1 hb
 have:=h.row k hk
 rw[qk hk] at this
 exact ⟨k,hk,by rw[qk hk,e],by rw[←e];exact this⟩
theorem mB.K (h:mB S at_ V preds n):∀a b,a∈V→b∈V→gi at_ a+gi at_ b<((2*V.length:Nat):Int):=fun a b ha hb=>by
 obtain ⟨j,hj,_,e1⟩:=h.at_lt ha
 obtain ⟨k,hk,_,e2⟩:=h.at_lt hb
 rw[e1,e2];omega
theorem mB.meets (h:mB S at_ V preds n) {l:List Int} {j:Nat} {b:Int} (hR:l9 S (gi at_) V (gi l) j (gi at_ b)) (hb:b∈V) (h0:b≠0):jO S (gi at_) V (gi l) b (fI (gi l) (gi at_) (2*V.length) (preds b) (-1)):=by
 obtain ⟨p,h1,h2,h3⟩:=h.ord.fwd b hb h0
 have hp:=hR.has p h1 (.inl h3)
 obtain ⟨g1,g2⟩:=rh h.ord hR.inv h.K (preds b) ⟨p,(h.preds b hb p).2 h2,hp⟩
 exact ⟨hb,h0,g1,fun x=>(g2 x).trans ⟨fun hh q hq=>hh q ((h.preds b hb q).2 hq),fun hh q hq=>hh q ((h.preds b hb q).1 hq)⟩,p,h2,hp,h3⟩
theorem mB.step (h:mB S at_ V preds n) {l:List Int} {j k:Nat} {b:Int} (hl:l.length=n) (hk:0<k) (hb:V[k]?=some b) (hR:l9 S (gi at_) V (gi l) j k) :
  l9 S (gi at_) V (gi (iB at_ (2*V.length) preds l b)) j ((k+1:Nat):Int)∧(V.length≤j→iB at_ (2*V.length) preds l b=l)∧gi at_ b=k∧b∈V∧b≠0:=by
 obtain ⟨hk2,e⟩:=List.getElem?_eq_some_iff.1 hb
 have hbm:b∈V:=e▸qo hk2
 have hat:gi at_ b=k:=by have:=h.row k hk2;rw[hb] at this;exact this
 have hb0:b≠0:=fun e2=>by rw[e2,h.ord.zero] at hat;omega
 have hnn:=h.ord.nn b hbm
 have hblt:=h.lt b hbm
 rw[←hat] at hR
 have hM:=h.meets hR hbm hb0
 have hset:=sf (l:=l) hnn (by omega) (fI (gi l) (gi at_) (2*V.length) (preds b) (-1))
 refine ⟨?_,fun hj=>?_,hat,hbm,hb0⟩
 ·have:=hR.step h.ord hM
  unfold iB
  rw[hset]
  rw[hat] at this
  exact this
 ·have:=(hR.exact h.ord hj).still h.ord hM
  unfold iB
  rw[this,tG hnn]
theorem rj (K:Nat) (l:List Int) (b:Int):(iB at_ K preds l b).length=l.length:=by unfold iB;rw[List.length_set]
theorem oC (K:Nat):∀(bs:List Int) (l:List Int),(bs.foldl (iB at_ K preds) l).length=l.length
 |[],_=>rfl
 |b::bs,l=>by rw[List.foldl_cons,oC K bs,rj]
theorem mB.fold (h:mB S at_ V preds n) {j:Nat}:∀(bs:List Int) (k:Nat) (l:List Int),l.length=n→0<k→V.drop k=bs→l9 S (gi at_) V (gi l) j k →
  l9 S (gi at_) V (gi (bs.foldl (iB at_ (2*V.length) preds) l)) j ((max k V.length:Nat):Int)
 |[],k,l,hl,hk,hd,hR=>by
  have:V.length≤k:=by have:=congrArg List.length hd;simp at this;omega
  rw[Nat.max_eq_left this];exact hR
 |b::bs,k,l,hl,hk,hd,hR=>by
  have hk2:k<V.length:=by have:=congrArg List.length hd;simp at this;omega
  have hb:V[k]?=some b:=by have:=congrArg (fun z:List Int=>z[0]?) hd;simpa using this
  have:=mB.fold h bs (k+1) _ (by rw[rj,hl]) (by omega) (by rw[←List.drop_drop,hd];rfl) (h.step hl hk hb hR).1
  rw[List.foldl_cons]
  rwa [show max (k+1) V.length=max k V.length by omega] at this
theorem mB.pass (h:mB S at_ V preds n) {j:Nat} {l:List Int} (hl:l.length=n) (hR:l9 S (gi at_) V (gi l) j 1):l9 S (gi at_) V (gi (ri at_ (2*V.length) preds V l)) (j+1) 1:=by
 have h1:=h.fold (j:=j) V.tail 1 l hl (by omega) (by rw[List.drop_one]) hR
 refine h1.next h.ord fun x hx=>?_
 obtain ⟨k,hk,_,e⟩:=h.at_lt hx
 rw[e]
 have:=h.pos
 omega
theorem yF (K:Nat) (l:List Int):(ri at_ K preds V l).length=l.length:=oC K _ _
theorem kS (K:Nat) (l:List Int):∀k,(passN at_ K preds V l k).length=l.length
 |0=>rfl
 |k+1=>by rw[passN,yF,kS K l k]
theorem mB.fixed (h:mB S at_ V preds n) {j:Nat} {l:List Int} (hl:l.length=n) (hR:l9 S (gi at_) V (gi l) j 1) (hf:ri at_ (2*V.length) preds V l=l):jP S (gi at_) V (gi l):=by
 have:∀i,l9 S (gi at_) V (gi l) (j+i) 1:=fun i=>by
  induction i with
  |zero=>exact hR
  |succ i ih=>have:=h.pass hl ih;rw[hf] at this;exact this
 exact (this V.length).exact h.ord (by omega)
theorem ma (hn:0<n):gi (e8 n)=fun x=>if x=0 then 0 else -1:=by
 funext x
 unfold e8
 have:=sf (l:=List.replicate n (-1)) (b:=0) (by omega) (by simp;exact hn) 0
 rw[show (0:Int).toNat=0 from rfl] at this
 rw[this]
 unfold ig
 split
 ·rfl
 ·unfold gi
  split
  ·rw[List.getElem?_replicate];split<;>rfl
  ·rfl
theorem mB.npos (h:mB S at_ V preds n):0<n:=by have:=h.lt 0 h.ord.zmem;omega
theorem mB.begin (h:mB S at_ V preds n):l9 S (gi at_) V (gi (e8 n)) 0 1:=by
 rw[ma h.npos];exact l9.first h.ord
theorem mB.passN (h:mB S at_ V preds n):∀k,l9 S (gi at_) V (gi (passN at_ (2*V.length) preds V (e8 n) k)) k 1
 |0=>h.begin
 |k+1=>h.pass (by rw[kS];simp[e8]) (h.passN k)
def rl (at_:List Int) (V:List Int) (preds:Int→List Int) (n:Nat):List Int:=Go.Proofs.YtdilpodccjlkgaaGreatDoor.passN at_ (2*V.length) preds V (e8 n) V.length
theorem mB.near (h:mB S at_ V preds n):jP S (gi at_) V (gi (rl at_ V preds n)):=(h.passN V.length).exact h.ord (Nat.le_refl _)
theorem jP.unique {at_:Int→Int} {N M:Int→Int} (hV:pU S at_ V) (h1:jP S at_ V N) (h2:jP S at_ V M):N=M:=by
 funext x
 by_cases hx:x∈V
 ·by_cases h0:x=0
  ·rw[h0,h1.inv.zero,h2.inv.zero]
  ·have key:∀{N M:Int→Int},jP S at_ V N→jP S at_ V M→at_ (N x)≤at_ (M x):=fun {N M} h1 h2=>by
    obtain ⟨g1,g2,g3⟩:=h1.inv.near x h0 (h1.has x hx)
    have hd:=(h1.anc x (N x) hx).1 (.up h0 (h1.has x hx) (.refl _))
    rcases ((h2.anc x (N x) hx).2 hd).cases' with e|⟨_,_,h3⟩
    ·rw[e] at g3;omega
    ·obtain ⟨k1,k2,k3⟩:=h2.inv.near x h0 (h2.has x hx)
     exact (h2.inv.anc k2 h3).2.1
   have e1:=key h1 h2
   have e2:=key h2 h1
   exact hV.inj _ _ (h1.inv.near x h0 (h1.has x hx)).1 (h2.inv.near x h0 (h2.has x hx)).1 (by omega)
 ·have e1:N x=-1:=Classical.byContradiction fun h=>hx (h1.inv.mem x h)
  have e2:M x=-1:=Classical.byContradiction fun h=>hx (h2.inv.mem x h)
  rw[e1,e2]
theorem mB.near_eq (h:mB S at_ V preds n) {l:List Int} (hl:l.length=n) (hE:jP S (gi at_) V (gi l)):l=rl at_ V preds n:=
 EM (by rw[hl];unfold rl;rw[kS];simp[e8]) fun x=>congrFun (hE.unique h.ord h.near) x
end
end Go.Proofs.YtdilpodccjlkgaaGreatDoor
namespace Go.Proofs.YtdilpodccjlkgaaGreatDoor
open Go.Proofs.Tryz
abbrev C7:=List Bool × List Int × List (Int × Nat)
def gb (l:List Bool) (x:Int):Bool:=(l[x.toNat]?).getD false
def ge (l:List Int) (k:Nat):Int:=(l[k]?).getD 0
def rm (E:Int→List Int):C7→C7
 |(seen,out,[])=>(seen,out,[])
 |(seen,out,(b,k)::r)=>if k=(E b).length then (seen,out++[b],r) else
   if gb seen (ge (E b) k) then (seen,out,(b,k+1)::r) else (seen.set (ge (E b) k).toNat true,out,(ge (E b) k,0)::(b,k+1)::r)
theorem lA (E:Int→List Int) (seen:List Bool) (out:List Int) (b:Int) (k:Nat) (r:List (Int × Nat)):rm E (seen,out,(b,k)::r)=if k=(E b).length then (seen,out++[b],r) else
   if gb seen (ge (E b) k) then (seen,out,(b,k+1)::r) else (seen.set (ge (E b) k).toNat true,out,(ge (E b) k,0)::(b,k+1)::r):=rfl
def oD (n:Nat):C7:=((List.replicate n false).set 0 true,[],[(0,0)])
def eL (E:Int→List Int) (n:Nat):Nat→C7
 |0=>oD n
 |k+1=>rm E (eL E n k)
def aA (E:Int→List Int) (n:Nat):List Int:=(eL E n (4*n)).2.1.reverse
structure EOk (E:Int→List Int) (n:Nat):Prop where
 npos:0<n
 rng:∀b:Int,0≤b→b<n→∀c∈E b,0≤c∧c<n
 len:∀b,(E b).length≤2
def A9 (E:Int→List Int):List Int→List Int→Prop
 |[],_=>True
 |v::r,s=>(v=0∨∃p,v∈E p∧(p∈r∨p∈s))∧A9 E r s
structure qA (E:Int→List Int) (n:Nat) (x:C7):Prop where
 len:x.1.length=n
 rng:∀v,v∈x.2.1++x.2.2.map Prod.fst→0≤v∧v<n
 seen:∀v,0≤v→(gb x.1 v=true↔v∈x.2.1++x.2.2.map Prod.fst)
 nodup:(x.2.1++x.2.2.map Prod.fst).Nodup
 rch:∀v,v∈x.2.1++x.2.2.map Prod.fst→re E v
 done:∀b∈x.2.1,∀c∈E b,c∈x.2.1++x.2.2.map Prod.fst
 part:∀q∈x.2.2,q.2≤(E q.1).length∧∀i,i<q.2→ge (E q.1) i∈x.2.1++x.2.2.map Prod.fst
 led:A9 E (x.2.1++x.2.2.map Prod.fst) []
 last:(x.2.1++x.2.2.map Prod.fst).getLast?=some 0
theorem wY {E:Int→List Int}:∀{l r s:List Int},A9 E (l++r) s↔A9 E l (r++s)∧A9 E r s
 |[],r,s=>by simp[A9]
 |v::l,r,s=>by
  rw[List.cons_append,A9,A9,wY (l:=l)]
  constructor
  ·rintro ⟨h,h1,h2⟩
   refine ⟨⟨?_,h1⟩,h2⟩
   rcases h with h|⟨p,h,h3⟩
   ·exact .inl h
   ·exact .inr ⟨p,h,by simp only[List.mem_append] at h3 ⊢;rcases h3 with (h3|h3)|h3<;>simp[h3]⟩
  ·rintro ⟨⟨h,h1⟩,h2⟩
   refine ⟨?_,h1,h2⟩
   rcases h with h|⟨p,h,h3⟩
   ·exact .inl h
   ·exact .inr ⟨p,h,by simp only[List.mem_append] at h3 ⊢;rcases h3 with h3|h3|h3<;>simp[h3]⟩
theorem Ba {l:List Bool} {v:Int} (h0:0≤v) (hl:v.toNat<l.length) {x:Int} (hx:0≤x):gb (l.set v.toNat true) x=true↔x=v∨gb l x=true:=by
 unfold gb
 by_cases e:x=v
 ·subst e;rw[List.getElem?_set_self hl];simp
 ·rw[List.getElem?_set_ne (by omega)];simp[e]
theorem qA.begin {E:Int→List Int} {n:Nat} (hE:EOk E n):qA E n (oD n):=by
 have hn:=hE.npos
 refine ⟨by simp[oD],fun v hv=>?_,fun v hv=>?_,by simp[oD],fun v hv=>?_,fun b hb=>by simp[oD] at hb,fun q hq=>?_,⟨.inl rfl,trivial⟩,rfl⟩
 ·simp[oD] at hv;omega
 ·have:=Ba (l:=List.replicate n false) (v:=0) (by omega) (by simp;exact hn) hv
  show gb ((List.replicate n false).set 0 true) v=true↔v∈[]++[0]
  rw[show (0:Int).toNat=0 from rfl] at this
  rw[this]
  have h2:gb (List.replicate n false) v=false:=by unfold gb;rw[List.getElem?_replicate];split<;>rfl
  simp[h2]
 ·simp[oD] at hv;subst hv;exact .refl trivial
 ·simp[oD] at hq;subst hq;exact ⟨qn _,fun i hi=>by omega⟩
theorem qA.step {E:Int→List Int} {n:Nat} (hE:EOk E n) {x:C7} (h:qA E n x):qA E n (rm E x):=by
 obtain ⟨seen,out,st⟩:=x
 cases st with
 |nil=>exact h
 |cons q r=>
  obtain ⟨b,k⟩:=q
  obtain ⟨hlen,hrng,hseen,hnd,hrch,hdone,hpart,hled,hlast⟩:=h
  dsimp only at hlen hrng hseen hnd hrch hdone hpart hled hlast
  rw[List.map_cons] at hrng hseen hnd hrch hdone hpart hled hlast
  have hb:=hpart (b,k) (.head _)
  dsimp only at hb
  rw[lA]
  by_cases hk:k=(E b).length
  ·rw[if_pos hk]
   have e:(out++[b])++r.map Prod.fst=out++b::r.map Prod.fst:=by simp
   refine ⟨hlen,?_,?_,?_,?_,?_,?_,?_,?_⟩<;>dsimp only<;>rw[e]
   ·exact hrng
   ·exact hseen
   ·exact hnd
   ·exact hrch
   ·intro c hc
    rcases List.mem_append.1 hc with hc|hc
    ·exact hdone c hc
    ·obtain rfl:=List.mem_singleton.1 hc
     intro d hd
     obtain ⟨i,hi,rfl⟩:=List.mem_iff_getElem.1 hd
     have:=hb.2 i (by omega)
     unfold ge at this
     rwa [qk hi] at this
   ·exact fun q hq=>hpart q (.tail _ hq)
   ·exact hled
   ·exact hlast
  ·rw[if_neg hk]
   have hk2:k<(E b).length:=by omega
   have hge:ge (E b) k=(E b)[k]:=by unfold ge;rw[qk hk2];rfl
   have hmem:ge (E b) k∈E b:=hge▸qo hk2
   obtain ⟨c,hc⟩:∃c,ge (E b) k=c:=⟨_,rfl⟩
   rw[hc] at hmem ⊢
   have hbr:=hrng b (by simp)
   have hcr:=hE.rng b hbr.1 hbr.2 c hmem
   by_cases hs:gb seen c=true
   ·rw[if_pos hs]
    refine ⟨hlen,?_,?_,?_,?_,?_,fun q hq=>?_,?_,?_⟩<;>dsimp only<;>rw[List.map_cons]
    ·exact hrng
    ·exact hseen
    ·exact hnd
    ·exact hrch
    ·exact hdone
    ·rcases List.mem_cons.1 hq with rfl|hq
     ·refine ⟨hk2,fun i hi=>?_⟩
      by_cases e:i=k
      ·subst e;dsimp only;rw[hc];exact (hseen c hcr.1).1 hs
      ·exact hb.2 i (by dsimp only at hi;omega)
     ·exact hpart q (.tail _ hq)
    ·exact hled
    ·exact hlast
   ·rw[if_neg hs]
    have hnm:c ∉ out++b::r.map Prod.fst:=fun hm=>hs ((hseen c hcr.1).2 hm)
    have hmm:∀v,v∈out++(c::b::r.map Prod.fst)↔v=c∨v∈out++b::r.map Prod.fst:=fun v=>by
     simp only[List.mem_append,List.mem_cons]
     constructor
     ·rintro (h|h|h|h)<;>simp[h]
     ·rintro (h|h|h|h)<;>simp[h]
    refine ⟨by dsimp only;rw[List.length_set];exact hlen,?_,fun v hv=>?_,?_,?_,?_,fun q hq=>?_,?_,?_⟩<;>dsimp only<;>rw[List.map_cons,List.map_cons]
    ·intro v hv
     rcases (hmm v).1 hv with rfl|hv
     ·exact hcr
     ·exact hrng v hv
    ·rw[Ba hcr.1 (by omega) hv,hmm,hseen v hv]
    ·have:(out++c::b::r.map Prod.fst).Perm (c::(out++b::r.map Prod.fst)):=List.perm_middle
     rw[this.nodup_iff,List.nodup_cons]
     exact ⟨hnm,hnd⟩
    ·intro v hv
     rcases (hmm v).1 hv with rfl|hv
     ·exact .step (hrch b (by simp)) hmem trivial
     ·exact hrch v hv
    ·exact fun a ha d hd=>(hmm d).2 (.inr (hdone a ha d hd))
    ·rcases List.mem_cons.1 hq with rfl|hq
     ·exact ⟨qn _,fun i hi=>by dsimp only at hi;omega⟩
     ·rcases List.mem_cons.1 hq with rfl|hq
      ·refine ⟨hk2,fun i hi=>(hmm _).2 ?_⟩
       by_cases e:i=k
       ·subst e;left;exact hc
       ·exact .inr (hb.2 i (by dsimp only at hi;omega))
      ·exact ⟨(hpart q (.tail _ hq)).1,fun i hi=>(hmm _).2 (.inr ((hpart q (.tail _ hq)).2 i hi))⟩
    ·rw[wY] at hled ⊢
     refine ⟨?_,.inr ⟨b,hmem,.inl (.head _)⟩,hled.2⟩
     have weak:∀(l s t:List Int),(∀x∈s,x∈t)→A9 E l s→A9 E l t:=fun l s t hst=>by
      induction l with
      |nil=>exact fun _=>trivial
      |cons v l ih=>
       rintro ⟨h1,h2⟩
       refine ⟨?_,ih h2⟩
       rcases h1 with h1|⟨p,h1,h3⟩
       ·exact .inl h1
       ·exact .inr ⟨p,h1,h3.imp id (hst p)⟩
     exact weak _ _ _ (fun x hx=>by simp only[qw] at hx ⊢;exact .tail _ hx) hled.1
    ·rw[List.getLast?_append,List.getLast?_cons_cons]
     rw[List.getLast?_append] at hlast
     exact hlast
def mb (x:C7):Nat:=4*(x.1.filter (fun b=>!b)).length+(x.2.2.map fun q=>3 - q.2).sum
theorem iT:∀(l:List Bool) (i:Nat),l[i]?=some false→((l.set i true).filter (fun b=>!b)).length+1=(l.filter (fun b=>!b)).length
 |[],i,h=>by simp at h
 |b::l,0,h=>by simp at h;subst h;simp
 |b::l,i+1,h=>by
  have:=iT l i (by simpa using h)
  cases b<;>simp<;>omega
theorem qA.less {E:Int→List Int} {n:Nat} (hE:EOk E n) {x:C7} (h:qA E n x) (hs:x.2.2≠[]):mb (rm E x)<mb x:=by
 obtain ⟨seen,out,st⟩:=x
 cases st with
 |nil=>exact absurd rfl hs
 |cons q r=>
  obtain ⟨b,k⟩:=q
  have hb:=h.part (b,k) (.head _)
  have hl2:=hE.len b
  have hbr:=h.rng b (by simp)
  dsimp only at hb
  rw[lA]
  unfold mb
  by_cases hk:k=(E b).length
  ·rw[if_pos hk];simp;omega
  ·rw[if_neg hk]
   have hk2:k<(E b).length:=by omega
   have hge:ge (E b) k=(E b)[k]:=by unfold ge;rw[qk hk2];rfl
   have hcr:=hE.rng b hbr.1 hbr.2 _ (hge▸qo hk2)
   split
   ·simp;omega
   ·rename_i hg
    have hlt:(ge (E b) k).toNat<seen.length:=by have:=h.len;dsimp only at this;omega
    have:=iT seen (ge (E b) k).toNat (by
     unfold gb at hg
     rw[qk hlt] at hg ⊢
     simpa using hg)
    simp;omega
theorem mK {E:Int→List Int} {x:C7} (h:x.2.2=[]):rm E x=x:=by
 obtain ⟨seen,out,st⟩:=x
 dsimp only at h
 subst h;rfl
section
variable {E:Int→List Int} {n:Nat} (hE:EOk E n)
include hE
theorem eU:∀k,qA E n (eL E n k)
 |0=>qA.begin hE
 |k+1=>(eU k).step hE
theorem EN:mb (oD n)<4*n:=by
 have hn:=hE.npos
 have:=iT (List.replicate n false) 0 (by rw[List.getElem?_replicate,if_pos hn])
 have h2:((List.replicate n false).filter fun b=>!b).length=n:=by simp
 unfold mb oD
 simp at this ⊢
 omega
theorem oE:∀k,(eL E n k).2.2=[]∨mb (eL E n k)+k<4*n
 |0=>.inr (by have:=EN hE;simpa [eL] using this)
 |k+1=>by
  rcases oE k with h|h
  ·left;rw[eL,mK h];exact h
  ·by_cases hs:(eL E n k).2.2=[]
   ·left;rw[eL,mK hs];exact hs
   ·right
    have:=(eU hE k).less hE hs
    rw[eL];omega
theorem nQ:(eL E n (4*n)).2.2=[]:=by
 rcases oE hE (4*n) with h|h
 ·exact h
 ·omega
omit hE in
theorem yG {k:Nat} (h:(eL E n k).2.2=[]) (hk:k≤4*n):eL E n (4*n)=eL E n k:=by
 have:∀j,eL E n (k+j)=eL E n k:=fun j=>by
  induction j with
  |zero=>rfl
  |succ j ih=>rw[←Nat.add_assoc,eL,ih,mK h]
 have h2:=this (4*n - k)
 rwa [show k+(4*n - k)=4*n by omega] at h2
theorem bP (v:Int):v∈aA E n↔re E v:=by
 have h:=eU hE (4*n)
 have he:=nQ hE
 unfold aA
 obtain ⟨hlen,hrng,hseen,hnd,hrch,hdone,hpart,hled,hlast⟩:=h
 rw[he] at hrng hseen hnd hrch hdone hpart hled hlast
 simp only[List.map_nil,qw] at hrng hseen hnd hrch hdone hpart hled hlast
 rw[List.mem_reverse]
 refine ⟨hrch v,fun hr=>?_⟩
 unfold re at hr
 induction hr with
 |refl _=>exact List.mem_of_getLast? hlast
 |step _ h1 _ ih=>exact hdone _ ih _ h1
theorem b3 {v:Int} (hv:v∈aA E n):0≤v∧v<n:=by
 have h:=(eU hE (4*n)).rng
 exact h v (List.mem_append_left _ (by unfold aA at hv;exact List.mem_reverse.1 hv))
theorem g9:(aA E n).Nodup:=by
 have h:=(eU hE (4*n)).nodup
 rw[nQ hE] at h
 unfold aA
 rw[(List.reverse_perm _).nodup_iff]
 simpa using h
theorem lB:(aA E n)[0]?=some 0:=by
 have h:=(eU hE (4*n)).last
 rw[nQ hE] at h
 unfold aA
 rw[←List.head?_eq_getElem?,List.head?_reverse]
 simpa using h
theorem yH (k:Nat) (v:Int) (hk:(aA E n)[k]?=some v) (h0:v≠0):∃(j:Nat) (p:Int),j<k∧(aA E n)[j]?=some p∧v∈E p:=by
 have h:=(eU hE (4*n)).led
 rw[nQ hE] at h
 simp only[List.map_nil,qw] at h
 unfold aA at hk ⊢
 generalize (eL E n (4*n)).2.1=out at h hk ⊢
 have key:∀(out:List Int),A9 E out []→∀k,out.reverse[k]?=some v→∃(j:Nat) (p:Int),j<k∧out.reverse[j]?=some p∧v∈E p:=fun out=>by
  induction out with
  |nil=>intro _ k hk;simp at hk
  |cons w out ih=>
   rintro ⟨h1,h2⟩ k hk
   rw[List.reverse_cons] at hk ⊢
   by_cases hlt:k<out.reverse.length
   ·rw[List.getElem?_append_left hlt] at hk
    obtain ⟨j,p,h3,h4,h5⟩:=ih h2 k hk
    exact ⟨j,p,h3,by rw[List.getElem?_append_left (by omega)];exact h4,h5⟩
   ·rw[List.getElem?_append_right (by omega)] at hk
    have hk0:k=out.reverse.length∧w=v:=by
     cases hq:k - out.reverse.length with
     |zero=>rw[hq] at hk;simp at hk;exact ⟨by omega,hk⟩
     |succ q=>rw[hq] at hk;simp at hk
    obtain ⟨rfl,rfl⟩:=hk0
    rcases h1 with h1|⟨p,h1,h3⟩
    ·exact absurd h1 h0
    ·have h3:p∈out.reverse:=by simpa using h3
     obtain ⟨j,hj,e⟩:=List.mem_iff_getElem.1 h3
     exact ⟨j,p,hj,by rw[List.getElem?_append_left hj,qk hj,e],h1⟩
 exact key out h k hk
end
end Go.Proofs.YtdilpodccjlkgaaGreatDoor
namespace Go.Proofs.YtdilpodccjlkgaaGreatDoor
open Go.Proofs.Tryz
def aU (n:Nat):List Int:=(List.range n).map Int.ofNat
theorem e9 {n k:Nat} (h:k<n):(aU n)[k]?=some (k:Int):=by unfold aU;rw[qs,List.getElem?_range h];rfl
theorem bA (n:Nat):(aU n).length=n:=by simp[aU]
theorem cM {n:Nat} {x:Int}:x∈aU n↔0≤x∧x<n:=by
 unfold aU
 rw[List.mem_map]
 constructor
 ·rintro ⟨k,hk,rfl⟩;have:=List.mem_range.1 hk;exact ⟨Int.natCast_nonneg k,Int.ofNat_lt.2 this⟩
 ·rintro ⟨h0,h1⟩;exact ⟨x.toNat,List.mem_range.2 (by omega),Int.toNat_of_nonneg h0⟩
theorem na (n:Nat):aU (n+1)=aU n++[(n:Int)]:=by unfold aU;rw[List.range_succ,qv];rfl
def bd (E:Int→List Int) (n:Nat) (b:Int):List Int:=(aU n).flatMap fun i=>((E i).filter fun c=>decide (c=b)).map fun _=>i
theorem iU {E:Int→List Int} {n:Nat} {b p:Int} (hE:EOk E n) (ho:∀x:Int,¬(0≤x∧x<n)→E x=[]):p∈bd E n b↔b∈E p:=by
 unfold bd
 rw[List.mem_flatMap]
 constructor
 ·rintro ⟨i,hi,h⟩
  obtain ⟨c,hc,rfl⟩:=List.mem_map.1 h
  obtain ⟨h1,h2⟩:=List.mem_filter.1 hc
  have h2:c=b:=by simpa using h2
  exact h2▸h1
 ·intro h
  have hp:0≤p∧p<n:=Classical.byContradiction fun hn=>by rw[ho p hn] at h;cases h
  exact ⟨p,cM.2 hp,List.mem_map.2 ⟨b,List.mem_filter.2 ⟨h,by simp⟩,rfl⟩⟩
theorem sg {l:List Int} {b:Int} (h0:0≤b) (h:b.toNat<l.length) (m x:Int):gi (l.set b.toNat m) x=if x=b then m else gi l x:=by rw[sf h0 h];rfl
theorem oF (n:Nat):∀(W:List Int) (i:Nat) (l:List Int),l.length=n→W.Nodup→(∀b∈W,0≤b∧b<n) →
  ((W.zipIdx i).foldl (fun l p=>l.set p.1.toNat (p.2:Int)) l).length=n∧(∀(k:Nat) b,W[k]?=some b→gi ((W.zipIdx i).foldl (fun l p=>l.set p.1.toNat (p.2:Int)) l) b=((i+k:Nat):Int)) ∧
  ∀b,b ∉ W→gi ((W.zipIdx i).foldl (fun l p=>l.set p.1.toNat (p.2:Int)) l) b=gi l b
 |[],i,l,hl,_,_=>⟨hl,fun k b h=>by simp at h,fun b _=>rfl⟩
 |v::W,i,l,hl,hW,hr=>by
  rw[List.zipIdx_cons,List.foldl_cons]
  rw[List.nodup_cons] at hW
  have hv:=hr v (.head _)
  obtain ⟨g1,g2,g3⟩:=oF n W (i+1) (l.set v.toNat (i:Int)) (by rw[List.length_set];exact hl) hW.2 fun b hb=>hr b (.tail _ hb)
  refine ⟨g1,fun k b h=>?_,fun b hb=>?_⟩
  ·cases k with
   |zero=>
    simp at h;subst h
    rw[g3 _ hW.1,sg hv.1 (by omega),if_pos rfl];rfl
   |succ k=>
    rw[g2 k b (by simpa using h)];omega
  ·rw[g3 b (fun h=>hb (.tail _ h)),sg hv.1 (by omega),if_neg (fun e=>hb (by rw[e];exact .head _))]
theorem EO (n:Nat) (x:Int):gi (List.replicate n (-1)) x=-1:=by
 unfold gi;split
 ·rw[List.getElem?_replicate];split<;>rfl
 ·rfl
structure eV (E:Int→List Int) (n:Nat):Prop extends EOk E n where
 out:∀x:Int,¬(0≤x∧x<n)→E x=[]
section
variable {E:Int→List Int} {n:Nat} (hE:eV E n)
include hE
theorem km {k:Nat} {b:Int} (h:(aA E n)[k]?=some b):gi (dT n (aA E n)) b=k:=by
 have:=(oF n (aA E n) 0 (List.replicate n (-1)) (by simp) (g9 hE.toEOk) fun b hb=>b3 hE.toEOk hb).2.1 k b h
 rw[Nat.zero_add] at this
 exact this
theorem wZ {b:Int} (h:b ∉ aA E n):gi (dT n (aA E n)) b=-1:=by
 have:=(oF n (aA E n) 0 (List.replicate n (-1)) (by simp) (g9 hE.toEOk) fun b hb=>b3 hE.toEOk hb).2.2 b h
 rw[EO] at this
 exact this
theorem eV.gok:mB E (dT n (aA E n)) (aA E n) (bd E n) n:=by
 have hpos:∀b,b∈aA E n↔0≤gi (dT n (aA E n)) b:=fun b=>by
  constructor
  ·intro hb
   obtain ⟨k,hk,e⟩:=List.mem_iff_getElem.1 hb
   rw[km hE (k:=k) (by rw[qk hk,e])];omega
  ·intro h
   refine Classical.byContradiction fun hb=>?_
   rw[wZ hE hb] at h;omega
 refine ⟨⟨bP hE.toEOk,hpos,fun a b ha hb e=>?_,km hE (k:=0) (lB hE.toEOk),fun b hb h0=>?_,fun b hb=>wZ hE hb,fun b hb=>(b3 hE.toEOk hb).1⟩,fun b hb=>(b3 hE.toEOk hb).2,fun k hk=>?_,fun b _ p=>iU hE.toEOk hE.out⟩
 ·obtain ⟨j,hj,e1⟩:=List.mem_iff_getElem.1 ha
  obtain ⟨k,hk,e2⟩:=List.mem_iff_getElem.1 hb
  rw[km hE (k:=j) (by rw[qk hj,e1]),km hE (k:=k) (by rw[qk hk,e2])] at e
  have:j=k:=by omega
  subst this
  rw[←e1,←e2]
 ·obtain ⟨k,hk,e⟩:=List.mem_iff_getElem.1 hb
  obtain ⟨j,p,h1,h2,h3⟩:=yH hE.toEOk k b (by rw[qk hk,e]) h0
  refine ⟨p,?_,h3,?_⟩
  ·obtain ⟨hj,e2⟩:=List.getElem?_eq_some_iff.1 h2
   exact e2▸qo hj
  ·rw[km hE h2,km hE (k:=k) (by rw[qk hk,e])];omega
 ·rw[qk hk]
  exact km hE (qk hk)
end
def bl (E:Int→List Int) (n:Nat):List Int:=rl (dT n (aA E n)) (aA E n) (bd E n) n
theorem kT (E:Int→List Int) (n:Nat):(bl E n).length=n:=by unfold bl rl;rw[kS];simp[e8]
def tH (N l:List Int) (b:Int):List Int:=l.set b.toNat (gi l (gi N b)+1)
def bT (E:Int→List Int) (n:Nat):List Int:=(aA E n).tail.foldl (tH (bl E n)) (e8 n)
theorem tI (N l:List Int) (b:Int):(tH N l b).length=l.length:=by unfold tH;rw[List.length_set]
section
variable {E:Int→List Int} {n:Nat} (hE:eV E n)
include hE
theorem eV.exact:jP E (gi (dT n (aA E n))) (aA E n) (gi (bl E n)):=hE.gok.near
theorem eV.near_mem {b:Int} (hb:b∈aA E n) (h0:b≠0):gi (bl E n) b∈aA E n∧gi (dT n (aA E n)) (gi (bl E n) b)<gi (dT n (aA E n)) b:=by
 have:=hE.exact.inv.near b h0 (hE.exact.has b hb)
 exact ⟨this.1,this.2.2⟩
structure nB (E:Int→List Int) (n:Nat) (l:List Int) (k:Nat):Prop where
 len:l.length=n
 zero:gi l 0=0
 row:∀b∈aA E n,b≠0→gi (dT n (aA E n)) b<k→gi l b=gi l (gi (bl E n) b)+1∧0≤gi l b
 none:∀b,(b∈aA E n→(k:Int)≤gi (dT n (aA E n)) b)→b≠0→gi l b=-1
omit hE in
theorem lC (n:Nat):(e8 n).length=n:=by simp[e8]
theorem nB.first:nB E n (e8 n) 1:=by
 have hn:=hE.npos
 refine ⟨lC n,by rw[ma hn];rfl,fun b hb h0 hlt=>?_,fun b _ h0=>by rw[ma hn];simp[h0]⟩
 have h1:=hE.gok.ord
 have:b=0:=h1.inj b 0 hb h1.zmem (by rw[h1.zero];have:=(h1.pos b).1 hb;omega)
 exact absurd this h0
theorem nB.step {l:List Int} {k:Nat} {b:Int} (hk:0<k) (hb:(aA E n)[k]?=some b) (h:nB E n l k):nB E n (tH (bl E n) l b) (k+1):=by
 have ho:=hE.gok.ord
 obtain ⟨hk2,e⟩:=List.getElem?_eq_some_iff.1 hb
 have hbm:b∈aA E n:=e▸qo hk2
 have hat:=km hE hb
 have hb0:b≠0:=fun e2=>by rw[e2,ho.zero] at hat;omega
 have hr:=b3 hE.toEOk hbm
 have hnr:=hE.near_mem hbm hb0
 have hnb:gi (bl E n) b≠b:=fun e2=>by rw[e2] at hnr;omega
 have hlen:=h.len
 have hst:∀x,gi (tH (bl E n) l b) x=if x=b then gi l (gi (bl E n) b)+1 else gi l x:=fun x=>sg hr.1 (by omega) _ x
 refine ⟨by rw[tI];exact h.len,by rw[hst,if_neg hb0.symm];exact h.zero,fun x hx h0 hlt=>?_,fun x hx h0=>?_⟩
 ·by_cases ex:x=b
  ·subst ex
   rw[hst,if_pos rfl,hst,if_neg hnb]
   refine ⟨U,?_⟩
   by_cases hn0:gi (bl E n) x=0
   ·rw[hn0,h.zero];omega
   ·have:=(h.row _ hnr.1 hn0 (by omega)).2;omega
  ·have hlt2:gi (dT n (aA E n)) x<k:=by
    have:gi (dT n (aA E n)) x≠gi (dT n (aA E n)) b:=fun e2=>ex (ho.inj x b hx hbm e2)
    omega
   have hnx:=hE.near_mem hx h0
   have hne:gi (bl E n) x≠b:=fun e2=>by rw[e2] at hnx;omega
   rw[hst,if_neg ex,hst,if_neg hne]
   exact h.row x hx h0 hlt2
 ·have ex:x≠b:=fun e2=>by subst e2;have:=hx hbm;omega
  rw[hst,if_neg ex]
  exact h.none x (fun hm=>by have:=hx hm;omega) h0
theorem nB.fold:∀(bs:List Int) (k:Nat) (l:List Int),0<k→(aA E n).drop k=bs→nB E n l k→nB E n (bs.foldl (tH (bl E n)) l) (max k (aA E n).length)
 |[],k,l,hk,hd,h=>by
  have:(aA E n).length≤k:=by have:=congrArg List.length hd;simp at this;omega
  rw[Nat.max_eq_left this];exact h
 |b::bs,k,l,hk,hd,h=>by
  have hk2:k<(aA E n).length:=by have:=congrArg List.length hd;simp at this;omega
  have hb:(aA E n)[k]?=some b:=by have:=congrArg (fun z:List Int=>z[0]?) hd;simpa using this
  have:=nB.fold bs (k+1) _ (by omega) (by rw[←List.drop_drop,hd];rfl) (h.step hE hk hb)
  rw[List.foldl_cons]
  rwa [show max (k+1) (aA E n).length=max k (aA E n).length by omega] at this
theorem eV.lev:nB E n (bT E n) (aA E n).length:=by
 have:=nB.fold hE (aA E n).tail 1 _ (by omega) (by rw[List.drop_one]) (nB.first hE)
 rwa [Nat.max_eq_right hE.gok.pos] at this
theorem eV.at_lt {b:Int} (hb:b∈aA E n):gi (dT n (aA E n)) b<(aA E n).length:=by
 obtain ⟨k,hk,_,e⟩:=hE.gok.at_lt hb
 rw[e];omega
theorem eV.lev_near {b:Int} (hb:b∈aA E n) (h0:b≠0):gi (bT E n) b=gi (bT E n) (gi (bl E n) b)+1:=(hE.lev.row b hb h0 (hE.at_lt hb)).1
theorem eV.lev_nn {b:Int} (hb:b∈aA E n):0≤gi (bT E n) b:=by
 by_cases h0:b=0
 ·rw[h0,hE.lev.zero];omega
 ·exact (hE.lev.row b hb h0 (hE.at_lt hb)).2
theorem eV.lev_none {b:Int} (hb:b ∉ aA E n):gi (bT E n) b=-1:=hE.lev.none b (fun h=>absurd h hb) (fun e=>hb (by rw[e];exact hE.gok.ord.zmem))
theorem eV.lev_mem (b:Int):gi (bT E n) b≠-1↔b∈aA E n:=by
 refine ⟨fun h=>Classical.byContradiction fun hb=>h (hE.lev_none hb),fun hb h=>?_⟩
 have:=hE.lev_nn hb;omega
theorem eV.lev_anc {b a:Int} (hb:b∈aA E n) (h:f9 (gi (bl E n)) b a):a∈aA E n∧gi (bT E n) a≤gi (bT E n) b∧(gi (bT E n) b≤gi (bT E n) a→a=b):=by
 induction h with
 |refl b=>exact ⟨hb,Int.le_refl _,fun _=>rfl⟩
 |@up x a h1 h2 h3 ih=>
  obtain ⟨g1,g2,g3⟩:=ih (hE.near_mem hb h1).1
  have:=hE.lev_near hb h1
  exact ⟨g1,by omega,fun _=>by omega⟩
theorem eV.dom_iff {a b:Int} (hb:b∈aA E n):gF E a b↔f9 (gi (bl E n)) b a:=(hE.exact.anc b a hb).symm
end
def cN (N:List Int):Nat→Int→List Int
 |0,_=>[]
 |k+1,b=>b::if b=0 then[] else cN N k (gi N b)
def er (E:Int→List Int) (n:Nat) (a b:Int):Bool:=decide (gi (bT E n) b≠-1)&&(cN (bl E n) n b).contains a
section
variable {E:Int→List Int} {n:Nat} (hE:eV E n)
include hE
theorem mL {a:Int}:∀(k:Nat) (b:Int),b∈aA E n→gi (bT E n) b<k→(a∈cN (bl E n) k b↔f9 (gi (bl E n)) b a)
 |0,b,hb,hk=>by have:=hE.lev_nn hb;omega
 |k+1,b,hb,hk=>by
  unfold cN
  rw[List.mem_cons]
  by_cases h0:b=0
  ·rw[if_pos h0]
   constructor
   ·rintro (h|h)
    ·subst h;exact .refl _
    ·cases h
   ·intro h
    rcases h.cases' with e|⟨h1,_⟩
    ·exact .inl e
    ·exact absurd h0 h1
  ·rw[if_neg h0]
   have h1:=hE.near_mem hb h0
   have h2:=hE.lev_near hb h0
   rw[mL k _ h1.1 (by omega)]
   constructor
   ·rintro (h|h)
    ·subst h;exact .refl _
    ·exact .up h0 (hE.exact.has b hb) h
   ·intro h
    rcases h.cases' with e|⟨_,_,h3⟩
    ·exact .inl e
    ·exact .inr h3
theorem vA {b:Int} (hb:b∈aA E n):gi (bT E n) b≤gi (dT n (aA E n)) b:=by
 obtain ⟨k,hk⟩:∃k:Nat,gi (dT n (aA E n)) b≤k:=⟨(gi (dT n (aA E n)) b).toNat,by omega⟩
 induction k generalizing b with
 |zero=>
  have ho:=hE.gok.ord
  have:b=0:=ho.inj b 0 hb ho.zmem (by rw[ho.zero];have:=(ho.pos b).1 hb;omega)
  rw[this,hE.lev.zero,ho.zero];omega
 |succ k ih=>
  by_cases h0:b=0
  ·rw[h0,hE.lev.zero,hE.gok.ord.zero];omega
  ·have h1:=hE.near_mem hb h0
   have h2:=hE.lev_near hb h0
   have:=ih h1.1 (by omega)
   omega
omit hE in
theorem kU:∀(l m:List Int),l.Nodup→(∀x∈l,x∈m)→l.length≤m.length
 |[],_,_,_=>qn _
 |x::l,m,h1,h2=>by
  rw[List.nodup_cons] at h1
  have hx:=h2 x (.head _)
  have:=kU l (m.erase x) h1.2 fun y hy=>(List.mem_erase_of_ne (fun e=>h1.1 (by rw[←e];exact hy))).2 (h2 y (.tail _ hy))
  have hp:=List.length_pos_of_mem hx
  rw[List.length_erase_of_mem hx] at this
  rw[List.length_cons];omega
theorem fg:(aA E n).length≤n:=by
 have h1:=g9 hE.toEOk
 have h2:∀x∈aA E n,x∈aU n:=fun x hx=>cM.2 (b3 hE.toEOk hx)
 have:=kU _ _ h1 h2
 rwa [bA] at this
theorem eV.domB_iff (a b:Int):er E n a b=true↔gF E a b:=by
 unfold er
 rw[qz,decide_eq_true_iff,hE.lev_mem]
 constructor
 ·rintro ⟨hb,h⟩
  have h1:=vA hE hb
  have h2:=hE.at_lt hb
  have h3:=fg hE
  exact (hE.dom_iff hb).2 ((mL hE n b hb (by omega)).1 (by simpa using h))
 ·intro h
  have hb:=(bP hE.toEOk b).2 h.1
  have h1:=vA hE hb
  have h2:=hE.at_lt hb
  have h3:=fg hE
  exact ⟨hb,by simpa using (mL hE n b hb (by omega)).2 ((hE.dom_iff hb).1 h)⟩
end
end Go.Proofs.YtdilpodccjlkgaaGreatDoor
namespace Go.Proofs.YtdilpodccjlkgaaGreatDoor
open Go.Proofs.Tryz
def df (t:fH):List Int:=if t.kind=0 then[t.to0] else if t.kind=1 then (if t.to0=t.to1 then[t.to0] else[t.to0,t.to1]) else[]
theorem ro (t:fH):(df t).length≤2:=by unfold df;split<;>(try split)<;>(try split)<;>simp
theorem tJ (t:fH):(df t).Nodup:=by
 unfold df
 split
 ·simp
 ·split
  ·split<;>simp_all
  ·simp
def ah (f:ad) (b:Int):List Int:=if 0≤b then ((f.blocks[b.toNat]?).map fun c=>df c.term).getD [] else[]
theorem vB {f:ad} {k:Nat} (h:k<f.blocks.length):ah f (k:Int)=df f.blocks[k].term:=by
 unfold ah;rw[if_pos (by omega)]
 rw[show ((k:Int).toNat)=k from rfl,qk h];rfl
theorem lD {f:ad} {b:Int} (h0:0≤b) (h:b.toNat<f.blocks.length):ah f b=df f.blocks[b.toNat].term:=by
 unfold ah;rw[if_pos h0,qk h];rfl
theorem iV {f:ad} {b:Int} (h:¬(0≤b∧b<f.blocks.length)):ah f b=[]:=by
 unfold ah
 split
 ·rw[List.getElem?_eq_none (by omega)];rfl
 ·rfl
theorem oG (f:ad) (b:Int):(ah f b).length≤2:=by
 unfold ah
 split
 ·cases f.blocks[b.toNat]? with
  |none=>simp
  |some c=>exact ro c.term
 ·simp
theorem go (f:ad) (b:Int):(ah f b).Nodup:=by
 unfold ah
 split
 ·cases f.blocks[b.toNat]? with
  |none=>simp
  |some c=>exact tJ c.term
 ·simp
structure bV (f:ad):Prop where
 pos:0<f.blocks.length
 rng:∀b∈f.blocks,∀c∈df b.term,0≤c∧c<f.blocks.length
theorem bV.grph {f:ad} (h:bV f):eV (ah f) f.blocks.length:=
 {npos:=h.pos
  rng:=fun b h0 h1 c hc=>by
   rw[lD h0 (by omega)] at hc
   exact h.rng _ (qo (by omega)) c hc
  len:=oG f
  out:=fun _ hx=>iV hx }
theorem mc {E:Int→List Int} (hn:∀b,(E b).Nodup) (n:Nat) (b:Int):(bd E n b).Nodup∧(bd E n b).Pairwise (·<·):=by
 have key:(bd E n b).Pairwise (·<·):=by
  unfold bd
  rw[List.flatMap,List.pairwise_flatten]
  constructor
  ·intro l hl
   obtain ⟨i,_,rfl⟩:=List.mem_map.1 hl
   have h1:=hn i
   have h2:((E i).filter fun c=>decide (c=b)).length≤1:=by
    generalize E i=l at h1
    induction l with
    |nil=>simp
    |cons x l ih=>
     rw[List.nodup_cons] at h1
     rw[List.filter_cons]
     split
     ·rename_i hx
      have hx:x=b:=by simpa using hx
      have:l.filter (fun c=>decide (c=b))=[]:=List.filter_eq_nil_iff.2 fun y hy=>by
       intro e
       have:y=b:=by simpa using e
       rw[←hx] at this
       exact h1.1 (this▸hy)
      rw[this];simp
     ·exact ih h1.2
   match h3:((E i).filter fun c=>decide (c=b)) with
   |[]=>simp
   |[x]=>simp
   |x::y::r=>rw[h3] at h2;simp at h2
  ·rw[List.pairwise_map]
   unfold aU
   rw[List.pairwise_map]
   refine List.Pairwise.imp ?_ List.pairwise_lt_range
   intro i j hij x hx y hy
   obtain ⟨_,_,rfl⟩:=List.mem_map.1 hx
   obtain ⟨_,_,rfl⟩:=List.mem_map.1 hy
   exact Int.ofNat_lt.2 hij
 exact ⟨key.imp fun h e=>by omega,key⟩
def gG (E:Int→List Int) (a shut b:Int):Prop:=a≠shut∧∃c,c∈E a∧ir E (fun x=>x≠shut) c b
theorem gG.step {E:Int→List Int} {a shut x y:Int} (h:(x=a∧a≠shut)∨gG E a shut x) (he:y∈E x) (hy:y≠shut):gG E a shut y:=by
 rcases h with ⟨rfl,h⟩|⟨h,c,hc,hw⟩
 ·exact ⟨h,y,he,.refl hy⟩
 ·exact ⟨h,c,hc,.step hw he hy⟩
theorem gG.closed {E:Int→List Int} {a shut:Int} {out:Int→Prop} (hc:∀x y,x≠shut→(x=a∨out x)→y∈E x→y≠shut→out y) {b:Int} (h:gG E a shut b):out b:=by
 obtain ⟨ha,c,hc1,hw⟩:=h
 induction hw with
 |refl h1=>exact hc a c ha (.inl rfl) hc1 h1
 |step h1 h2 h3 ih=>exact hc _ _ h1.end_ (.inr ih) h2 h3
theorem Bb {E:Int→List Int} {shut b:Int}:((b=0∧shut≠0)∨(b≠0∧gG E 0 shut b))↔ir E (fun x=>x≠shut) 0 b:=by
 constructor
 ·rintro (⟨rfl,h⟩|⟨_,h,c,hc,hw⟩)
  ·exact .refl (fun e=>h e.symm)
  ·exact ir.trans (.step (.refl h) hc hw.start) hw
 ·intro h
  by_cases hb:b=0
  ·exact .inl ⟨hb,fun e=>h.start e.symm⟩
  ·refine .inr ⟨hb,h.start,?_⟩
   rcases h.last with e|⟨c,hc,hw⟩
   ·exact absurd e hb
   ·exact ⟨c,hc,hw.mono fun _ h=>h.1⟩
theorem w7 {E:Int→List Int} {n:Nat} (hE:eV E n) {b:Int}:ir E (fun x=>x≠-1) 0 b↔re E b:=by
 constructor
 ·exact fun h=>h.mono fun _ _=>trivial
 ·intro h
  refine h.self.mono fun x hx e=>?_
  have:=b3 hE.toEOk ((bP hE.toEOk x).2 hx.2)
  omega
abbrev gH:=Int × Int
def rp (v:Int) (i:Int) (b:aY):List gH:=(b.phis.filter fun p=>decide (p.dst=v)).map (fun _=>(i,-1))++(b.insts.zipIdx.filter fun x=>decide (x.1.dst=v)).map fun x=>(i,(x.2:Int))
def bu (f:ad) (v:Int):List gH:=f.blocks.zipIdx.flatMap fun b=>rp v (b.2:Int) b.1
def aL (f:ad) (v:Int):gH:=(bu f v).head?.getD (-1,0)
def w8 (f:ad):Prop:=∀v:Nat,v<f.vars.length→(bu f v).length≤1∧(bu f v≠[]→f.params.length≤v)
def kn (f:ad) (m:gH) (b at_:Int):Prop:=m.1<0∨(m.1=b∧m.2<at_)∨(0≤m.1∧m.1≠b∧gF (ah f) m.1 b)
def Bc (f:ad):Prop:=∀i (h:i<f.blocks.length),∀p∈f.blocks[i].phis,p.from_.Perm (bd (ah f) f.blocks.length i)
def Bd (f:ad):Prop:=∀i:Nat,i<f.blocks.length→re (ah f) i
def iC (f:ad) (b:Int):Int:=((f.blocks[b.toNat]?).map fun c=>(c.insts.length:Int)).getD 0
def si (f:ad) (i:Nat) (b:aY):Prop:=
 (∀p∈b.phis,∀q∈p.args.zip p.from_,kn f (aL f q.1) q.2 (iC f q.2)) ∧
 (∀k (h:k<b.insts.length),∀v∈b.insts[k].args,kn f (aL f v) i k) ∧
 (b.term.kind=0∨kn f (aL f b.term.var) i b.insts.length)
def EP (f:ad):Prop:=∀i (h:i<f.blocks.length),si f i f.blocks[i]
def Be (f:ad):Prop:=Bc f∧Bd f∧w8 f∧EP f
end Go.Proofs.YtdilpodccjlkgaaGreatDoor
namespace Go.Proofs.YtdilpodccjlkgaaGreatDoor
open Go.Proofs.Tryz
open Go.Proofs
theorem cC:cU prog 23 3 1 1 [.int .i64 0]:=⟨_,wz,j6,Zs,by decide,by decide,by kernel_rfl⟩
theorem sj:cU prog 23 3 2 1 [.int .i64 0,.int .i64 0]:=⟨_,wz,j6,Zs,by decide,by decide,by kernel_rfl⟩
variable {E:World}
set_option maxRecDepth 20000
theorem EQ {t:fH} (h:t.kind=0):df t=[t.to0]:=by unfold df;rw[if_pos h]
theorem ER {t:fH} (h:t.kind=1) (e:t.to0=t.to1):df t=[t.to0]:=by unfold df;rw[if_neg (by omega),if_pos h,if_pos e]
theorem ES {t:fH} (h:t.kind=1) (e:¬t.to0=t.to1):df t=[t.to0,t.to1]:=by unfold df;rw[if_neg (by omega),if_pos h,if_neg e]
theorem ET {t:fH} (h0:¬t.kind=0) (h:¬t.kind=1):df t=[]:=by unfold df;rw[if_neg h0,if_neg h]
theorem rq (t:fH):aK prog E 107 [.agg (nO t)] (.fro 1 ((df t).map cW)):=by
 refine zq func107 U (by decide) U<|ae<|y9 (cs:=_) U U U<|bF U<|z6<|zd<|zj<|zd<|ae<|ao jh U Zz U U<|ay Y8 U<|ai U U<|ab U<|z6<|zu U (fun c0=>?_) (fun c0=>?_)
 ·refine zg<|yl U (by simpa using c0)<|ae<|ao jh U Ze U U<|za (yv (j:=0) Z1 j6 U U U (by decide) U)<|ay j7 U<|y4 (rows:=[[_]]) cC U U U U U<|za (kO U)<|z6<|zi<|zm (x:=.fro _ _) U ?_
  rw[EQ c0];rfl
 ·refine aO<|ao jh U Zz U U<|ay Y8 U<|ai U U<|aj U<|zo (s:=10) U (fun c1=>?_) (fun c1=>?_)
  ·refine z8 U U c1<|ao jh U Ze U U<|z8 U U c1<|za (yv (j:=0) Z1 j6 U U U (by decide) U)<|z8 U U c1<|ay j7 U<|z8 U U c1<|ao jh U Ze U U<|z8 U U c1<|za (yv (j:=1) Z1 j6 U U U (by decide) U)<|z8 U U c1<|ay j7 U<|z8 U U c1<|ai U U<|aq U c1 U<|ab U<|z6<|zy U (fun c2=>?_) (fun c2=>?_)
   ·refine ae<|ao jh U Ze U U<|za (yv (j:=0) Z1 j6 U U U (by decide) U)<|ay j7 U<|y4 (rows:=[[_]]) cC U U U U U<|za (kO U)<|z6<|zi<|zm (x:=.fro _ _) U ?_
    rw[ER (by simpa using c1) (by simpa using c2)];rfl
   ·refine ae<|ao jh U Zz U U<|ay Y8 U<|ai U U<|ab U<|z6<|yl U (by simpa using c1)<|ae<|ao jh U Ze U U<|za (yv (j:=0) Z1 j6 U U U (by decide) U)<|ay j7 U<|ao jh U Ze U U<|za (yv (j:=1) Z1 j6 U U U (by decide) U)<|ay j7 U<|y4 (rows:=[[_],[_]]) sj U U U U U<|za (kO U)<|z6<|zi<|zm (x:=.fro _ _) U ?_
    rw[ES (by simpa using c1) (by simpa using c2)];rfl
  ·refine z7 U U c1<|z7 U U c1<|z7 U U c1<|z7 U U c1<|z7 U U c1<|z7 U U c1<|z7 U U c1<|au U c1 U<|ab U<|z6<|yg U U<|ae<|ao jh U Zz U U<|ay Y8 U<|ai U U<|ab U<|z6<|yg U (by simpa using c1)<|zg<|ae<|bF U<|z6<|zi ?_
   repeat (first|refine fM ?_|refine ez ?_)
   refine ye (aX.slot (t:=2) U (AY 1))<|zm (x:=.fro _ _) U ?_
   rw[ET (by simpa using c0) (by simpa using c1)];rfl
def md (rows:List (List Int)) (c x:Int):List (List Int):=rows.set c.toNat ((rows[c.toNat]?).getD []++[x])
def fu (rows:List (List Int)) (cs:List Int) (x:Int):List (List Int):=cs.foldl (fun r c=>md r c x) rows
theorem oH (cs:List Int) (x:Int):∀rows,(fu rows cs x).length=rows.length:=by
 induction cs with
 |nil=>intro rows;rfl
 |cons c cs ih=>intro rows;show (fu (md rows c x) cs x).length=_;rw[ih];unfold md;simp
theorem tK (rows:List (List Int)) (cs:List Int) (c x:Int):fu rows (cs++[c]) x=md (fu rows cs x) c x:=by unfold fu;rw[List.foldl_append];rfl
theorem yI {rows:List (List Int)} {c x:Int} (h0:0≤c) (b:Nat):(md rows c x)[b]?=(rows[b]?).map (·++if c=(b:Int) then[x] else[]):=by
 unfold md
 rw[List.getElem?_set]
 by_cases e:c.toNat=b
 ·have:c=(b:Int):=by omega
  rw[if_pos e,if_pos this,e]
  by_cases hb:b<rows.length
  ·rw[if_pos hb,qk hb];rfl
  ·rw[if_neg hb,List.getElem?_eq_none (by omega)];rfl
 ·have:¬c=(b:Int):=by omega
  rw[if_neg e,if_neg this];simp
theorem lE (x:Int) (b:Nat):∀(cs:List Int) (rows:List (List Int)),(∀c∈cs,0≤c)→(fu rows cs x)[b]?=(rows[b]?).map (·++(cs.filter fun c=>decide (c=(b:Int))).map fun _=>x)
 |[],rows,_=>by simp[fu]
 |c::cs,rows,h=>by
  show (fu (md rows c x) cs x)[b]?=_
  rw[lE x b cs _ (fun c hc=>h c (List.mem_cons_of_mem _ hc)),yI (h c (List.mem_cons_self ..))]
  cases rows[b]? with
  |none=>rfl
  |some r=>
   by_cases e:c=(b:Int)
   ·simp[e]
   ·simp[e]
def cS (f:ad) (k:Nat):List (List Int):=(List.range f.blocks.length).map fun (b:Nat)=>bd (ah f) k (b:Int)
theorem fO (f:ad) (k:Nat):(cS f k).length=f.blocks.length:=by unfold cS;simp
theorem tL (f:ad):List.replicate f.blocks.length []=cS f 0:=by
 apply List.ext_getElem
 ·rw[fO];simp
 ·intro i h1 h2
  unfold cS bd aU
  simp
theorem kp (E:Int→List Int) (k:Nat) (b:Int):bd E (k+1) b=bd E k b++((E k).filter fun c=>decide (c=b)).map fun _=>(k:Int):=by
 unfold bd;rw[na,List.flatMap_append];simp
theorem tM {f:ad} {k:Nat} (h0:∀c∈ah f k,0≤c):fu (cS f k) (ah f k) k=cS f (k+1):=by
 apply List.ext_getElem?
 intro b
 rw[lE _ _ _ _ h0]
 by_cases hb:b<f.blocks.length
 ·unfold cS
  rw[qs,qs,List.getElem?_range hb]
  simp only[Option.map_some]
  rw[kp]
 ·rw[List.getElem?_eq_none (by rw[fO];omega),List.getElem?_eq_none (by rw[fO];omega)];rfl
theorem Bf {rows:List (List Int)} {c x:Int} (h:c.toNat<rows.length):rows.set c.toNat (rows[c.toNat]++[x])=md rows c x:=by
 unfold md;rw[qk h];rfl
theorem gI (f:ad) (b:Int):∀k,(bd (ah f) k b).length≤2*k
 |0=>by simp[bd,aU]
 |k+1=>by
  have h1:=gI f b k
  have h2:=oG f k
  have h3:=List.length_filter_le (fun c=>decide (c=b)) (ah f k)
  rw[kp,qq,qr]
  omega
theorem C8 {f:ad} {k b:Nat} {cs:List Int} {x:Int} (h0:∀c∈cs,0≤c) (hb:b<(fu (cS f k) cs x).length):(fu (cS f k) cs x)[b].length≤2*k+cs.length:=by
 have hb2:b<f.blocks.length:=by rwa [oH,fO] at hb
 have h:=lE x b cs (cS f k) h0
 have hr:(cS f k)[b]?=some (bd (ah f) k (b:Int)):=by unfold cS;rw[qs,List.getElem?_range hb2];rfl
 rw[qk hb,hr] at h
 have h:(fu (cS f k) cs x)[b]=bd (ah f) k (b:Int)++(cs.filter fun c=>decide (c=(b:Int))).map fun _=>x:=by simpa using h
 have h2:=gI f b k
 have h3:=List.length_filter_le (fun c=>decide (c=(b:Int))) cs
 rw[h,qq,qr]
 omega
theorem oI (f:ad) (hE:bV f) (hn:f.blocks.length≤100000):aK prog E 65 [.agg (bD f)] (lg eI (cS f f.blocks.length)):=by
 refine zq func65 U (by decide) U<|ae<|y9 (cs:=_) U U U<|bF U<|z6<|ae<|ao jg U Z6 U U<|aI Zd U<|ar jk U<|yd (m:=f.blocks.length) ji Zh U U U U U (by simp) (by simp) (by show (24:Int)*_≤_;omega) (by omega) eI 3<|fun b11=>za (qc (v:=eb _ _) U)<|z6<|zd<|ae<|ao jg U Z6 U U<|aI Zd U<|ar jk U<|aa U<|z6<|zj<|y8 (γ:=Nat) [3,13,14] (fun k=>[(15,.int .i64 k)]) (fun k=>[(0,du eI 23 3 b11 (cS f k))]) (fun k=>k≤f.blocks.length) (fun k=>f.blocks.length - k) 0 aH ⟨_,(.refl _),by rw[tL]⟩ (qn _) ?_
 rintro k hk
 refine ae<|ax U U<|z6<|zd<|zu U (fun ck=>?_) (fun ck=>?_)
 ·have hk2:k<f.blocks.length:=by simp at ck;omega
  have hEk:ah f k=df f.blocks[k].term:=vB hk2
  have hlen:=ro f.blocks[k].term
  have hrng:=hE.rng _ (qo hk2)
  refine zg<|zd<|zj<|ae<|aa U<|za (bh k jk Z0 U U U (qk hk2))<|ac Yk Z0 U U<|y6 (cs:=[.str ⟨#[]⟩,.raw (.slice none 0 0),.raw (.slice none 0 0),.int .i64 0,.int .i64 0,.int .i64 0,.int .i64 0]) Zn U U<|fun i5=>ap U<|y1 Z0 U U U U U U .head U<|z6<|ae<|za (zn jj U Zm (by decide) U U)<|za (Gv.loadAC (l:=[_,_,_,_]) isAgg49 Zm U ⟨_,.head⟩ U U)<|ze (rq _) U<|ar wz U<|aa U<|z6<|zj<|y8 (γ:=Nat) [3,4,13,14,15,22,23] (fun j=>[(24,.int .i64 j)]) (fun j=>[(0,du eI 23 3 b11 (fu (cS f k) ((df f.blocks[k].term).take j) k))]) (fun j=>j≤(df f.blocks[k].term).length) (fun j=>(df f.blocks[k].term).length - j) 0 aH ⟨_,(.drop (.refl _)),U⟩ (qn _) ?_
  rintro j hj
  refine ae<|ax U U<|z6<|zd<|zu U (fun cj=>?_) (fun cj=>?_)
  ·have hj2:j<(df f.blocks[k].term).length:=by simp at cj;omega
   obtain ⟨c,hc⟩:∃c,(df f.blocks[k].term)[j]=c:=⟨_,rfl⟩
   have hr:=hrng c (hc▸qo hj2)
   obtain ⟨rows,hrows⟩:∃rows,fu (cS f k) ((df f.blocks[k].term).take j) k=rows:=⟨_,rfl⟩
   have hrl:rows.length=f.blocks.length:=by rw[←hrows,oH,fO]
   have hcn:c.toNat<rows.length:=by omega
   have hrow:rows[c.toNat].length≤200002:=by
    have:=C8 (f:=f) (k:=k) (b:=c.toNat) (cs:=(df f.blocks[k].term).take j) (x:=k) (fun c hc=>(hrng c (List.mem_of_mem_take hc)).1) (by rw[hrows];exact hcn)
    simp only[hrows,List.length_take] at this
    omega
   rw[hrows]
   refine zg<|zd<|zj<|ae<|za (bh j wz j6 U U U (by rw[qk hj2,hc])) ?_
   refine ay j7 U<|ap U<|z6<|aO<|za (yt (v:=eb _ _) U)<|aa U<|za (yt (v:=eb _ _) U)<|aa U<|za (qh (j:=c.toNat) ji j8 U U (by omega) (by omega))<|q8 (j:=c.toNat) (r:=rows[c.toNat]) j9 U (qk hcn) (fun _=>.head)<|fun i33=>aa U<|y4 (rows:=[[_]]) cC U U U U U<|yj (k:=1) wz X8 U U U U U (fun _=>.head) (by rw[eI.av_len];rfl) (by decide) U (by show (_+1)*8≤_;omega) (by show _+1≤_;omega)<|fun i36=>za (qh (j:=c.toNat) ji j8 U U (by omega) (by omega))<|qi (j:=c.toNat) (r:=rows[c.toNat]++[(k:Int)]) j8 U U (by omega) .head .head U (eI.av_push _ _) (by simp)<|z6<|aO<|aC U U<|aa U<|z6 ?_
   exact ⟨j+1,lf,aH,⟨_,(.refl _),by rw[ql hj2,tK,hrows,hc,Bf hcn]⟩,hj2,by omega⟩
  ·have hjn:j=(df f.blocks[k].term).length:=by simp at cj;omega
   refine y7<|aO<|aC U U<|aa U<|z6 ?_
   exact ⟨k+1,de,aH,⟨_,(.refl _),by rw[hjn,qp,←hEk,tM (fun c hc=>(hrng c (hEk▸hc)).1)]⟩,hk2,by omega⟩
 ·have hkn:k=f.blocks.length:=by simp at ck;omega
  subst hkn
  refine y3 (aX.nestKnow (s:=3) U .head (fO f _))<|y7<|ae<|aT U<|za (kO U)<|z6<|zi<|zm (x:=.fro _ _) U ?_
  rfl
end Go.Proofs.YtdilpodccjlkgaaGreatDoor
namespace Go.Proofs.YtdilpodccjlkgaaGreatDoor
open Go.Proofs.Tryz
open Go.Proofs
theorem Ej:cX prog 204 #[(0,1),(1,1)] [.int .i64 0,.int .i64 0]:=⟨_,_,Yv,zeroValue204,fun w=>by kernel_rfl,rfl⟩
theorem w9:cU prog 205 204 1 2 [.int .i64 0,.int .i64 0]:=⟨_,Yn,sizeOf204,zeroValue204,by decide,by decide,by kernel_rfl⟩
variable {E:World}
set_option maxRecDepth 20000
def Fu (r:List (Int × Nat)):List AV:=(r.reverse.map fun q=>[AV.int .i64 q.1,AV.int .i64 (q.2:Int)]).flatten
theorem kq (b:Int) (k:Nat) (r:List (Int × Nat)):Fu ((b,k)::r)=Fu r++[AV.int .i64 b,AV.int .i64 (k:Int)]:=by unfold Fu;simp
theorem sk (r:List (Int × Nat)):(Fu r).length=r.length*2:=by
 induction r with
 |nil=>rfl
 |cons q r ih=>obtain ⟨b,k⟩:=q;rw[kq,qq,ih];simp only[List.length_cons,List.length_nil];omega
theorem Bg {f:ad} {n k:Nat} (hE:EOk (ah f) n):(eL (ah f) n k).2.1.length+(eL (ah f) n k).2.2.length≤n:=by
 have h:=eU hE k
 have h2:=kU _ (aU n) h.nodup fun x hx=>cM.2 (h.rng x hx)
 rw[bA,qq,qr] at h2
 exact h2
theorem vC (f:ad) (hE:bV f) (hn:f.blocks.length≤100000) (hrev:∀(l:List Int) (i:Nat) (T:TypeId),l.length≤200000→aR prog E 133 [.own i l.length] [(i,.grow 1 T (cI l))] fun r O=>r=.tup []∧O=[(i,.grow 1 T (cI l.reverse))]) :
  aK prog E 98 [.agg (bD f)] (.fro 1 ((aA (ah f) f.blocks.length).map cW)):=by
 have hG:=hE.grph
 have hpos:=hG.npos
 refine zq func98 U (by decide) U<|ae<|y9 (cs:=_) U U U<|bF U<|z6<|ae<|ao jg U Z6 U U<|aI Zd U<|ar jk U<|az.makeB (m:=f.blocks.length) jx type4 U U U U U (by simp) (by simp) (by show (1:Int)*_≤_;omega) (by omega)<|fun i12=>za (gZ U)<|z6<|ae<|bz U<|za (yp (j:=0) jx Zc U U U ⟨_,.head⟩ (by first|rfl|(simp[aQ,aW];done)|(simp[aQ,aW];omega)) hG.npos)<|qg (j:=0) Zc U U .head (by first|omega|(simp;omega))<|z6<|ae<|bF U<|z6<|ae<|za (y5 (cps:=[(0,[_]),(1,[_])]) (rs:=[_,_]) Ej U U U)<|az.buildSliceO (cps:=[(0,[_,_])]) (rs:=[_,_]) w9 U U U U U<|fun i16=>za (gZ U)<|z6<|fo (t:=4) (k:=1) (T:=3) U<|fun i4=>y3 (zb (zc .t1))<|zd<|zj<|y8 (γ:=Nat × Nat × Nat) [1,3] (fun g=>[(4,.own g.2.1 (eL (ah f) f.blocks.length g.1).2.1.length),(5,.own g.2.2 (eL (ah f) f.blocks.length g.1).2.2.length)]) (fun g=>[(g.2.2,.grow 2 204 (Fu (eL (ah f) f.blocks.length g.1).2.2)),(g.2.1,.grow 1 3 (cI (eL (ah f) f.blocks.length g.1).2.1)),(i12,.grow 1 4 (cB (eL (ah f) f.blocks.length g.1).1))]) (fun g=>g.1≤4*f.blocks.length∧(eL (ah f) f.blocks.length g.1).1.length=f.blocks.length) (fun g=>mb (eL (ah f) f.blocks.length g.1)) (0,i4,i16) cV aD (⟨qn _,by simp[eL,oD]⟩) ?_
 rintro ⟨k,io,il⟩ ⟨hk,hsl⟩
 try dsimp only at *
 have hI:=eU hG.toEOk k
 have hlen:=Bg (k:=k) hG.toEOk
 have hlt:=oE hG.toEOk k
 have hstep:eL (ah f) f.blocks.length (k+1)=rm (ah f) (eL (ah f) f.blocks.length k):=rfl
 rcases hx:eL (ah f) f.blocks.length k with ⟨seen,out,st⟩
 rw[hx] at hI hlen hlt hstep hsl
 dsimp only at hlen hlt hsl
 cases st with
 |nil=>
 ·refine zd<|ae<|bz U<|za (Gv.lenO Yn U)<|bb U U<|z6<|yg U (by simp) ?_
  have hfin:=yG (E:=ah f) (n:=f.blocks.length) (k:=k) (by rw[hx]) hk
  refine y7<|ae<|bz U<|zr U (zh (.r (.l (.r (.rest _))))) (hrev out io 3 (by omega)) ?_
  rintro r82 O82 ⟨rfl,rfl⟩
  refine z6<|y3 (aX.knowI (t:=4) U .head (by simp))<|ae<|aT U<|za (kO U)<|z6<|zi<|zm (x:=.fro _ _) U ?_
  unfold aA;rw[hfin,hx];rfl
  |cons q r=>
 ·obtain ⟨b,j⟩:=q
  have hbr:=hI.rng b (by simp)
  have hbl:b.toNat<f.blocks.length:=by omega
  have hEb:ah f b=df f.blocks[b.toNat].term:=lD hbr.1 hbl
  have hjl:=(hI.part (b,j) (by simp)).1
  dsimp only at hjl
  have hmn:mb (eL (ah f) f.blocks.length (k+1))<mb (eL (ah f) f.blocks.length k):=by rw[hstep,hx];exact qA.less hG.toEOk hI (by simp)
  have hk2:k+1≤4*f.blocks.length:=by simp at hlt;omega
  have hsn:(eL (ah f) f.blocks.length (k+1)).1.length=f.blocks.length:=(eU hG.toEOk (k+1)).len
  rw[lA] at hstep
  rw[hx] at hmn
  rw[kq]
  simp only[List.length_cons] at hlen ⊢
  refine zd<|ae<|bz U<|za (Gv.lenO Yn U)<|bb U U<|z6<|yl U (by simp)<|zg<|zj<|ae<|bz U<|bz U<|za (Gv.lenO Yn U)<|za (Gv.sub U U (by unfold lj;show _∧((r.length+1:Nat):Int) - 1≤_;omega))<|za (Gv.idxOL (j:=r.length) Yn sizeOf204 U U (by show ((r.length+1:Nat):Int) - 1=_;omega) ⟨_,.head⟩ (by simp) (by show r.length<r.length+1;omega) (show r.length*2=(Fu r).length by rw[sk]))<|za (gc U)<|z6<|zd<|zw (fun j=>false) (by kernel_rfl) U (zh (.r (.rest _)))<|ak 0 U (bx jg U Z6 U U)<|ak 1 U (dx Zd U)<|ak 2 U (ef U)<|ak 3 U (yb U)<|ak 4 U (zn Yv U j6 (by decide) U U)<|ak 5 U (Gv.loadL (c:=.int _ _) (j:=0) j7 U U ⟨_,.head⟩ U)<|ak 6 U (bh b.toNat jk Z0 U U (by omega) (qk hbl))<|ak 7 U (bx jj U Zm U U)<|ak 8 U (yr isAgg49 Zm U U)<|ba 9 U<|ze (rq _) U<|z6<|ak 10 U (kO U)<|bY<|zd<|ae<|aE U<|aw U<|za (zn Yv U j6 (by decide) U U)<|za (Gv.loadL (c:=.int _ _) (j:=1) j7 U U ⟨_,.head⟩ U)<|aT U<|ar wz U ?_
  refine ai U U<|z6<|zy U (fun ce=>?_) (fun ce=>?_)
  ·have hje:j=(ah f b).length:=by rw[hEb];have h0:(j:Int)=((df f.blocks[b.toNat].term).length:Int):=(by simpa using ce);omega
   rw[if_pos hje] at hstep
   refine ae<|bz U<|aE U<|aw U<|za (zn Yv U j6 (by decide) U U)<|za (Gv.loadL (c:=.int _ _) (j:=0) j7 U U ⟨_,.head⟩ U)<|y4 (rows:=[[_]]) cC U U U U U<|yj (k:=1) wz X8 U U U U U (fun _=>.t1) (by rw[aQ];omega) (by decide) U (by show (out.length+1)*8≤_;omega) (by show out.length+1≤_;omega)<|fun i48=>za (gZ U)<|z6<|ae<|bz U<|bz U<|za (Gv.lenO Yn U)<|za (Gv.sub U U (by unfold lj;show _∧((r.length+1:Nat):Int) - 1≤_;omega))<|az.cutLast (j:=r.length) Yn sizeOf204 U U (by show ((r.length+1:Nat):Int) - 1=_;omega) .head (by decide) (by rw[sk])<|za (gZ U)<|z6<|y7 ?_
   exact ⟨(k+1,i48,il),cV,⟨(by rw[hstep,qq];rfl),(by rw[hstep];rfl),trivial⟩,⟨_,(.refl _),by rw[hstep];dsimp only;rw[←lw];rfl⟩,⟨hk2,hsn⟩,by exact hmn⟩
  ·have hje:¬j=(ah f b).length:=by rw[hEb];have h0:¬(j:Int)=((df f.blocks[b.toNat].term).length:Int):=(by simpa using ce);omega
   have hj2:j<(df f.blocks[b.toNat].term).length:=by rw[←hEb];omega
   rw[if_neg hje] at hstep
   obtain ⟨c,hc⟩:∃c,ge (ah f b) j=c:=⟨_,rfl⟩
   have hcj:(df f.blocks[b.toNat].term)[j]?=some c:=by rw[←hEb];unfold ge at hc;rw[←hc,hEb,qk hj2];rfl
   have hcr:=hG.rng b hbr.1 hbr.2 c (by rw[hEb];exact qu hcj)
   rw[hc] at hstep
   have hgs:seen[c.toNat]?=some (gb seen c):=by unfold gb;rw[qk (by omega)];rfl
   have hl2:=hG.len b
   rw[hEb] at hl2
   refine zg<|ae<|aT U<|aE U<|aw U<|za (zn Yv U j6 (by decide) U U)<|za (Gv.loadL (c:=.int _ _) (j:=1) j7 U U ⟨_,.head⟩ U)<|za (bh j wz j6 U U U hcj)<|ay j7 U<|ap U<|z6<|ae<|aE U<|aw U<|za (zn Yv U j6 (by decide) U U)<|za (Gv.loadL (c:=.int _ _) (j:=1) j7 U U ⟨_,.head⟩ U)<|aC U U<|aw U<|za (zn Yv U j6 (by decide) U U)<|az.storeL (j:=1) (l:=[_]) (new:=[_,_]) j6 U U U U U U U .head U U U<|z6<|ae<|bz U<|aa U<|za (yp (j:=c.toNat) jx Zc U U (by omega) ⟨_,.t2⟩ (by first|rfl|(simp[aQ,aW];done)|(simp[aQ,aW];omega)) (by omega))<|za (Gv.loadB (j:=c.toNat) Y7 U ⟨_,.t2⟩ hgs)<|aB U<|z6<|zy U (fun cs=>?_) (fun cs=>?_)
   ·rw[if_neg (by simpa using cs)] at hstep
    refine ae<|bz U<|aa U<|za (yp (j:=c.toNat) jx Zc U U (by omega) ⟨_,.t2⟩ (by first|rfl|(simp[aQ,aW];done)|(simp[aQ,aW];omega)) (by omega))<|qg (j:=c.toNat) Zc U U .t2 (by first|omega|(simp;omega))<|z6<|aO<|bz U<|aa U<|za (y5 (cps:=[(0,[_]),(1,[_])]) (rs:=[_,_]) Ej U U U)<|y4 (rows:=[[_,_]]) w9 U U U U U<|yj (k:=2) Yn type204 U U U U U (fun _=>.head) (by rw[qq,sk];show r.length*2+2=(r.length+1)*2;omega) (by decide) U (by show (r.length+1+1)*16≤_;omega) (by show r.length+1+1≤_;omega)<|fun i80=>za (gZ U)<|z6 ?_
    exact ⟨(k+1,io,i80),cV,⟨(by rw[hstep];rfl),(by rw[hstep];rfl),trivial⟩,⟨_,(.refl _),by rw[hstep,kq,kq];rfl⟩,⟨hk2,hsn⟩,by exact hmn⟩
   ·rw[if_pos (by simpa using cs)] at hstep
    refine zg ?_
    exact ⟨(k+1,io,il),cV,⟨(by rw[hstep];rfl),(by rw[hstep];rfl),trivial⟩,⟨_,(.refl _),by rw[hstep,kq];rfl⟩,⟨hk2,hsn⟩,by exact hmn⟩
end Go.Proofs.YtdilpodccjlkgaaGreatDoor
namespace Go.Proofs.YtdilpodccjlkgaaGreatDoor
open Go.Proofs.Tryz
section
variable {E:World} {P:Program} {n:Nat} {l:List Oper} {W:Nat→Bool} {Q:aS→OL→Prop} {fuel:Nat} {listed:Array Bool} {env:aS} {O Os Om:OL}
theorem bX.many {is:List Nat} (hr:Region.ready .any l.toArray listed=is) (h0:is≠[])
  (h:∀k∈is,∃o,l[k]?=some o∧az P E l.toArray (fun env' Om'=>bX P E l W Q fuel (listed.setIfInBounds k true) env' Os Om') [o] env Om):bX P E l W Q (fuel+1) listed env Os Om:=fun I F ρ w Ls h1 hLs h2=>by
 refine ⟨fun h0'=>absurd (hr.symm.trans h0') h0,fun k hk o2 ho2=>?_⟩
 rw[hr] at hk
 rw[List.getElem?_toArray] at ho2
 obtain ⟨o,e,h⟩:=h k hk
 rw[e] at ho2
 cases ho2
 exact q4 (fun ρ' w' ⟨J,env',Om',a,b,c,d⟩=>by
   have hst:eS I.k Ls E w':=by
    obtain ⟨J',L',h3,h4,h5⟩:=c.here
    exact ⟨J',L',a.k.trans h3,h4,h5⟩
   refine ⟨⟨hst.less,.inr hst⟩,da.mono ?_ ?_ (fun _ _=>q5 a) _ _ _ _ (d J F ρ' w' Ls b (hLs.mono a) c)⟩
   ·rintro w ⟨J',L',h3,h4⟩;exact ⟨J',L',a.k.trans h3,h4⟩
   ·rintro w ⟨J',L',h3,h4⟩;exact ⟨J',L',a.k.trans h3,h4⟩) _ _ _ (h I (Ls++F) ρ w h1 h2)
theorem bX.four {i j m q:Nat} {o1 o2 o3 o4:Oper} (hi:l[i]?=some o1) (hj:l[j]?=some o2) (hm:l[m]?=some o3) (hq:l[q]?=some o4) (hr:Region.ready .any l.toArray listed=[i,j,m,q])
  (h1:az P E l.toArray (fun env' Om'=>bX P E l W Q fuel (listed.setIfInBounds i true) env' Os Om') [o1] env Om)
  (h2:az P E l.toArray (fun env' Om'=>bX P E l W Q fuel (listed.setIfInBounds j true) env' Os Om') [o2] env Om)
  (h3:az P E l.toArray (fun env' Om'=>bX P E l W Q fuel (listed.setIfInBounds m true) env' Os Om') [o3] env Om)
  (h4:az P E l.toArray (fun env' Om'=>bX P E l W Q fuel (listed.setIfInBounds q true) env' Os Om') [o4] env Om):bX P E l W Q (fuel+1) listed env Os Om:=
 bX.many hr (by simp) fun k hk=>by
  simp only[List.mem_cons,List.not_mem_nil,or_false] at hk
  rcases hk with rfl|rfl|rfl|rfl
  ·exact ⟨_,hi,h1⟩
  ·exact ⟨_,hj,h2⟩
  ·exact ⟨_,hm,h3⟩
  ·exact ⟨_,hq,h4⟩
end
end Go.Proofs.YtdilpodccjlkgaaGreatDoor
namespace Go.Proofs.YtdilpodccjlkgaaGreatDoor
open Go.Proofs.Tryz
def jQ (l:List Int):List Int:=l.mergeSort fun x y=>decide (x≤y)
theorem eB (l:List Int):(jQ l).Perm l:=List.mergeSort_perm l _
theorem sm (l:List Int):(jQ l).Pairwise (·≤·):=by
 have:=List.pairwise_mergeSort (le:=fun x y:Int=>decide (x≤y)) (fun a b c h1 h2=>by simp at *;omega) (fun a b=>by simp;omega) l
 exact this.imp fun h=>by simpa using h
theorem Bh {l m:List Int} (hm:m.Pairwise (·<·)):jQ l=m↔l.Perm m:=by
 constructor
 ·intro h;rw[←h];exact (eB l).symm
 ·intro h
  exact List.Perm.eq_of_pairwise (le:=fun a b:Int=>a≤b) (fun a b _ _ h1 h2=>Int.le_antisymm h1 h2) (sm l) (hm.imp fun h=>Int.le_of_lt h) ((eB l).trans h)
theorem oJ {l m:List Int} (hn:l.Nodup) (hs:∀x∈l,x∈m) (hl:m.length≤l.length):l.Perm m:=by
 induction l generalizing m with
 |nil=>obtain rfl:m=[]:=List.eq_nil_of_length_eq_zero (by simpa using hl);exact .refl _
 |cons x l ih=>
  rw[List.nodup_cons] at hn
  have hx:=hs x (.head _)
  have h1:l.Perm (m.erase x):=ih hn.2 (fun y hy=>(List.mem_erase_of_ne (fun e=>hn.1 (by rw[←e];exact hy))).2 (hs y (.tail _ hy))) (by
   rw[List.length_erase_of_mem hx];simp at hl;omega)
  exact (List.Perm.cons x h1).trans (List.perm_cons_erase hx).symm
def xa (f:ad) (i:Nat) (l:List Int):Prop:=(bd (ah f) f.blocks.length i).length=l.length∧∀k (h:k<l.length),(i:Int)∈ah f l[k]∧l[k] ∉ l.take k
theorem oK {l:List Int}:l.Nodup↔∀k (h:k<l.length),l[k] ∉ l.take k:=by
 induction l with
 |nil=>simp
 |cons x l ih=>
  rw[List.nodup_cons,ih]
  constructor
  ·rintro ⟨h1,h2⟩ k hk
   cases k with
   |zero=>simp
   |succ k=>
    simp only[List.getElem_cons_succ,List.take_succ_cons,List.mem_cons,not_or]
    have hk':k<l.length:=by simpa using hk
    exact ⟨fun e=>h1 (by rw[←e];exact qo hk'),h2 k hk'⟩
  ·intro h
   constructor
   ·intro hm
    obtain ⟨k,hk,e⟩:=List.mem_iff_getElem.1 hm
    have:=h (k+1) (by simpa using hk)
    simp[e] at this
   ·intro k hk
    have:=h (k+1) (by simpa using hk)
    simp only[List.getElem_cons_succ,List.take_succ_cons,List.mem_cons,not_or] at this
    exact this.2
theorem yJ {f:ad} (hE:bV f) {i:Nat} {l:List Int}:xa f i l↔l.Perm (bd (ah f) f.blocks.length i):=by
 have hg:=hE.grph
 have hp:=mc (go f) f.blocks.length i
 unfold xa
 constructor
 ·rintro ⟨h1,h2⟩
  refine oJ (oK.2 fun k hk=>(h2 k hk).2) (fun x hx=>?_) (by omega)
  obtain ⟨k,hk,rfl⟩:=List.mem_iff_getElem.1 hx
  exact (iU hg.toEOk hg.out).2 (h2 k hk).1
 ·intro h
  have hn:=h.nodup_iff.2 hp.1
  exact ⟨h.length_eq.symm,fun k hk=>⟨(iU hg.toEOk hg.out).1 (h.mem_iff.1 (qo hk)),oK.1 hn k hk⟩⟩
theorem mM {f:ad} {i:Nat} {l:List Int}:jQ l=bd (ah f) f.blocks.length i↔l.Perm (bd (ah f) f.blocks.length i):=Bh (mc (go f) f.blocks.length i).2
end Go.Proofs.YtdilpodccjlkgaaGreatDoor
