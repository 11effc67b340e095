/- The document's own functions: names, the table, digits, what is the same, what has a text. No conditions but bounds. -/
import Derived.Test.YtbbonnfjealmpaaGreatDoorZXa
import Derived.Test.YtbbonnfjealmpaaGreatDoorZXb
import Derived.Sort.Grow
import Derived.Laws.CopyRow
import Derived.Shelf.Small.Bits
import Derived.Shelf.Small.Wraps
import Derived.Shelf.Strconv.Itoa0
import Derived.Shelf.Sort.Plain
import Derived.Shelf.Unicode.Props
import Derived.Shelf.LaysM
import Derived.Shelf.Unicode.PropsLaid
import Derived.Shelf.Bits.Mul64
import Derived.Shelf.Unicode.Is16White
import Derived.Shelf.Unicode.IsSpaceAny
import Derived.Shelf.Unicode.Is16WhiteD
import Derived.Shelf.Unicode.IsSpaceAnyD
import Derived.Shelf.Unicode.Is16Any
import Derived.Shelf.Unicode.Is32Any
import Derived.Shelf.Unicode.ExclAny
import Derived.Shelf.Unicode.PredsAny
import Derived.Shelf.Unicode.PredsPay
import Derived.Shelf.Slices.Turned
import Derived.Shelf.Slices.Reverse
import Derived.Shelf.Slices.Equal
import Derived.Ground.Names2Prog
import Derived.Shelf.Slices.Clone
import Derived.Shelf.Slices.SearchI
import Derived.Shelf.Slices.Cells
import Derived.Shelf.Slices.In.SortNone
import Derived.Shelf.Slices.Empties2
import Derived.Ground.SlgnProg
import Derived.Shelf.SlicesE.Reverse
import Derived.Shelf.SlicesE.Clone
import Derived.Test.YtbbonnfjealmpaaGreatDoorChecked
import Derived.Lib.ItoaLen
import Derived.Lib.Join
set_option linter.unusedVariables false
set_option linter.unusedSimpArgs false
set_option linter.unusedSectionVars false
namespace Go.Proofs.YtbbonnfjealmpaaGreatDoor
section
open Go.Proofs.Tryz
inductive kV (S:Int→List Int) (p:Int→Prop) (r:Int):Int→Prop
 |refl:p r→kV S p r r
 |step {b c}:kV S p r b→c∈S b→p c→kV S p r c
theorem kV.end_ {S:Int→List Int} {p:Int→Prop} {r b:Int} (h:kV S p r b):p b:=by cases h<;>assumption
theorem kV.start {S:Int→List Int} {p:Int→Prop} {r b:Int} (h:kV S p r b):p r:=by induction h<;>assumption
theorem kV.mono {S:Int→List Int} {p q:Int→Prop} {r b:Int} (hpq:∀x,p x→q x) (h:kV S p r b):kV S q r b:=by
 induction h with
 |refl h=>exact .refl (hpq _ h)
 |step _ h1 h2 ih=>exact .step ih h1 (hpq _ h2)
theorem kV.trans {S:Int→List Int} {p:Int→Prop} {r b c:Int} (h:kV S p r b) (k:kV S p b c):kV S p r c:=by
 induction k with
 |refl _=>exact h
 |step _ h1 h2 ih=>exact .step ih h1 h2
theorem kV.self {S:Int→List Int} {p:Int→Prop} {r b:Int} (h:kV S p r b):kV S (fun x=>p x∧kV S p r x) r b:=by
 induction h with
 |refl h=>exact .refl ⟨h,.refl h⟩
 |step h0 h1 h2 ih=>exact .step ih h1 ⟨h2,.step h0 h1 h2⟩
theorem kV.last {S:Int→List Int} {p:Int→Prop} {r b:Int} (h:kV S p r b):b=r∨∃c,c∈S r∧kV S (fun x=>p x∧x≠r) c b:=by
 induction h with
 |refl h=>exact .inl rfl
 |@step b c h0 h1 h2 ih=>
  by_cases hc:c=r
  ·exact .inl hc
  right
  rcases ih with rfl|⟨d,hd,hw⟩
  ·exact ⟨c,h1,.refl ⟨h2,hc⟩⟩
  exact ⟨d,hd,.step hw h1 ⟨h2,hc⟩⟩
inductive iW (S:Int→List Int) (at_:Int→Int) (p:Int→Prop) (r:Int):Nat→Int→Prop
 |refl {k}:p r→iW S at_ p r k r
 |fwd {k b c}:iW S at_ p r k b→c∈S b→at_ b<at_ c→p c→iW S at_ p r k c
 |back {k b c}:iW S at_ p r k b→c∈S b→p c→iW S at_ p r (k+1) c
theorem iW.end_ {S:Int→List Int} {at_:Int→Int} {p:Int→Prop} {r b:Int} {k:Nat} (h:iW S at_ p r k b):p b:=by cases h<;>assumption
theorem iW.way {S:Int→List Int} {at_:Int→Int} {p:Int→Prop} {r b:Int} {k:Nat} (h:iW S at_ p r k b):kV S p r b:=by
 induction h with
 |refl h=>exact .refl h
 |fwd _ h1 _ h2 ih=>exact .step ih h1 h2
 |back _ h1 h2 ih=>exact .step ih h1 h2
theorem iW.ahead {S:Int→List Int} {at_:Int→Int} {p q:Int→Prop} {r c b:Int} {k:Nat} (h:iW S at_ q c k b) (hqp:∀x,q x→p x) (hr:p r) (hc:c∈S r):iW S at_ p r (k+1) b:=by
 induction h with
 |refl h=>exact .back (.refl hr) hc (hqp _ h)
 |fwd _ h1 h2 h3 ih=>exact .fwd ih h1 h2 (hqp _ h3)
 |back _ h1 h2 ih=>exact .back ih h1 (hqp _ h2)
theorem kV.short {S:Int→List Int} (at_:Int→Int):∀(n:Nat) (V:List Int) (p:Int→Prop) (r b:Int),V.length=n→(∀x,p x→x∈V)→kV S p r b→∃k,k+1≤n∧iW S at_ p r k b
 |0,V,p,r,b,hl,hV,h=>by
  have:=hV _ h.start;rw[w6 hl] at this;cases this
 |n+1,V,p,r,b,hl,hV,h=>by
  rcases h.last with rfl|⟨c,hc,hw⟩
  ·exact ⟨0,by omega,.refl h.start⟩
  have hr:=hV _ h.start;obtain ⟨k,hk,hb⟩:=kV.short at_ n (V.erase r) (fun x=>p x∧x≠r) c b (by rw[List.length_erase_of_mem hr,hl];rfl) (fun x hx=>(List.mem_erase_of_ne hx.2).2 (hV x hx.1)) hw;exact ⟨k+1,by omega,hb.ahead (fun x hx=>hx.1) h.start hc⟩
def oV (S:Int→List Int) (b:Int):Prop:=kV S (fun _=>True) 0 b
def g9 (S:Int→List Int) (a b:Int):Prop:=oV S b∧¬kV S (fun x=>x≠a) 0 b
section
variable {S:Int→List Int}
theorem g9.refl {b:Int} (h:oV S b):g9 S b b:=⟨h,fun hw=>hw.end_ rfl⟩
theorem g9.root {b:Int} (h:oV S b):g9 S 0 b:=⟨h,fun hw=>hw.start rfl⟩
theorem g9.rch {a b:Int} (h:g9 S a b):oV S a:=by
 refine Classical.byContradiction fun hn=>h.2 ?_;exact (kV.self h.1).mono fun x hx e=>hn (e▸hx.2)
theorem g9.trans {a b c:Int} (h:g9 S a b) (k:g9 S b c):g9 S a c:=by
 refine ⟨k.1,fun hw=>?_⟩;refine k.2<|hw.self.mono fun x hx e=>?_;subst e;exact h.2 hx.2
theorem g9.pred {a b p:Int} (h:g9 S a b) (hp:oV S p) (he:b∈S p) (hab:a≠b):g9 S a p:=
 ⟨hp,fun hw=>h.2 (.step hw he (fun e=>hab e.symm))⟩
theorem g9.of_preds {a b:Int} (hb:oV S b) (h0:b≠0) (h:∀p,oV S p→b∈S p→g9 S a p):g9 S a b:=by
 refine ⟨hb,fun hw=>?_⟩;cases hw with
 |refl _=>exact h0 rfl
 |step h1 h2 h3=>exact (h _ (h1.mono fun _ _=>trivial) h2).2 h1
end
inductive jQ (N:Int→Int):Int→Int→Prop
 |refl (x):jQ N x x
 |up {x a}:x≠0→N x≠-1→jQ N (N x) a→jQ N x a
theorem jQ.trans {N:Int→Int} {x y z:Int} (h:jQ N x y) (k:jQ N y z):jQ N x z:=by
 induction h with
 |refl=>exact k
 |up h1 h2 _ ih=>exact .up h1 h2 (ih k)
theorem jQ.cases' {N:Int→Int} {x a:Int} (h:jQ N x a):a=x∨(x≠0∧N x≠-1∧jQ N (N x) a):=by
 cases h with
 |refl=>exact .inl rfl
 |up h1 h2 h3=>exact .inr ⟨h1,h2,h3⟩
structure vo (S:Int→List Int) (at_:Int→Int) (V:List Int):Prop where
 mem:∀b,b∈V↔oV S b
 pos:∀b,b∈V↔0≤at_ b
 inj:∀a b,a∈V→b∈V→at_ a=at_ b→a=b
 zero:at_ 0=0
 fwd:∀b,b∈V→b≠0→∃p,p∈V∧b∈S p∧at_ p<at_ b
 none:∀b,b ∉ V→at_ b=-1
 nn:∀b,b∈V→0≤b
structure kW (S:Int→List Int) (at_:Int→Int) (V:List Int) (N:Int→Int):Prop where
 zero:N 0=0
 mem:∀b,N b≠-1→b∈V
 near:∀b,b≠0→N b≠-1→N b∈V∧N (N b)≠-1∧at_ (N b)<at_ b
 path:∀b,b≠0→N b≠-1→kV S (fun x=>at_ (N b)≤at_ x) (N b) b
 dom:∀b d,N b≠-1→g9 S d b→jQ N b d
section
variable {S:Int→List Int} {at_:Int→Int} {V:List Int} {N:Int→Int}
theorem vo.zmem (hV:vo S at_ V):(0:Int)∈V:=(hV.mem 0).2 (.refl trivial)
theorem kW.anc (hN:kW S at_ V N) {x a:Int} (hx:N x≠-1) (h:jQ N x a):N a≠-1∧at_ a≤at_ x∧kV S (fun y=>at_ a≤at_ y) a x:=by
 induction h with
 |refl x=>exact ⟨hx,Int.le_refl _,.refl (Int.le_refl _)⟩
 |@up x a h1 h2 h3 ih=>
  obtain ⟨g1,g2,g3⟩:=hN.near x h1 h2;obtain ⟨i1,i2,i3⟩:=ih g2;refine ⟨i1,by omega,i3.trans ((hN.path x h1 h2).mono fun y hy=>by omega)⟩
theorem kW.antisymm (hV:vo S at_ V) (hN:kW S at_ V N) {x a:Int} (hx:N x≠-1) (h:jQ N x a) (e:at_ x≤at_ a):a=x:=by
 rcases h.cases' with h|⟨h1,h2,h3⟩
 ·exact h
 have g:=hN.near x h1 h2;have:=(hN.anc g.2.1 h3).2.1;omega
def eL (N at_:Int→Int):Nat→Int→Int→Int
 |0,a,_=>a
 |k+1,a,b=>if a=b then a else if at_ b<at_ a then eL N at_ k (N a) b else eL N at_ k a (N b)
theorem pg (hV:vo S at_ V) (hN:kW S at_ V N):∀(k:Nat) (a b:Int),N a≠-1→N b≠-1→at_ a+at_ b<k→N (eL N at_ k a b)≠-1∧∀x,jQ N (eL N at_ k a b) x↔jQ N a x∧jQ N b x
 |0,a,b,ha,hb,hk=>by
  have h1:=(hV.pos a).1 (hN.mem a ha);have h2:=(hV.pos b).1 (hN.mem b hb);exact absurd hk (by omega)
 |k+1,a,b,ha,hb,hk=>by
  have h1:=(hV.pos a).1 (hN.mem a ha);have h2:=(hV.pos b).1 (hN.mem b hb);unfold eL
  by_cases hab:a=b
  ·rw[if_pos hab];subst hab;exact ⟨ha,fun x=>⟨fun h=>⟨h,h⟩,fun h=>h.1⟩⟩
  rw[if_neg hab]
  by_cases hlt:at_ b<at_ a
  ·rw[if_pos hlt];have ha0:a≠0:=fun e=>by rw[e,hV.zero] at hlt;omega
   obtain ⟨g1,g2,g3⟩:=hN.near a ha0 ha;obtain ⟨i1,i2⟩:=pg hV hN k (N a) b g2 hb (by omega);refine ⟨i1,fun x=>(i2 x).trans ⟨fun h=>⟨.up ha0 ha h.1,h.2⟩,fun h=>⟨?_,h.2⟩⟩⟩;rcases h.1.cases' with rfl|⟨_,_,h3⟩
   ·have:=(hN.anc hb h.2).2.1;omega
   exact h3
  rw[if_neg hlt];have hlt2:at_ a<at_ b:=by
   have:at_ a≠at_ b:=fun e=>hab (hV.inj a b (hN.mem a ha) (hN.mem b hb) e);omega
  have hb0:b≠0:=fun e=>by rw[e,hV.zero] at hlt2;omega
  obtain ⟨g1,g2,g3⟩:=hN.near b hb0 hb;obtain ⟨i1,i2⟩:=pg hV hN k a (N b) ha g2 (by omega);refine ⟨i1,fun x=>(i2 x).trans ⟨fun h=>⟨h.1,.up hb0 hb h.2⟩,fun h=>⟨h.1,?_⟩⟩⟩;rcases h.2.cases' with rfl|⟨_,_,h3⟩
  ·have:=(hN.anc ha h.1).2.1;omega
  exact h3
theorem nz (hV:vo S at_ V) (hN:kW S at_ V N):∀(k j:Nat) (a b:Int),N a≠-1→N b≠-1→at_ a+at_ b<k→k≤j→eL N at_ j a b=eL N at_ k a b
 |0,j,a,b,ha,hb,hk,_=>by
  have h1:=(hV.pos a).1 (hN.mem a ha);have h2:=(hV.pos b).1 (hN.mem b hb);exact absurd hk (by omega)
 |k+1,0,_,_,_,_,_,hj=>by omega
 |k+1,j+1,a,b,ha,hb,hk,hj=>by
  have h1:=(hV.pos a).1 (hN.mem a ha);have h2:=(hV.pos b).1 (hN.mem b hb);unfold eL
  by_cases hab:a=b
  ·rw[if_pos hab,if_pos hab]
  rw[if_neg hab,if_neg hab]
  by_cases hlt:at_ b<at_ a
  ·rw[if_pos hlt,if_pos hlt];have ha0:a≠0:=fun e=>by rw[e,hV.zero] at hlt;omega
   obtain ⟨g1,g2,g3⟩:=hN.near a ha0 ha;exact nz hV hN k j (N a) b g2 hb (by omega) (by omega)
  rw[if_neg hlt,if_neg hlt];have hlt2:at_ a<at_ b:=by
   have:at_ a≠at_ b:=fun e=>hab (hV.inj a b (hN.mem a ha) (hN.mem b hb) e);omega
  have hb0:b≠0:=fun e=>by rw[e,hV.zero] at hlt2;omega
  obtain ⟨g1,g2,g3⟩:=hN.near b hb0 hb;exact nz hV hN k j a (N b) ha g2 (by omega) (by omega)
def hU (N at_:Int→Int) (K:Nat):List Int→Int→Int
 |[],m=>m
 |p::ps,m=>hU N at_ K ps (if at_ p=-1∨N p=-1 then m else if m=-1 then p else eL N at_ K m p)
theorem tj (hV:vo S at_ V) (hN:kW S at_ V N) {K:Nat} (hK:∀a b,a∈V→b∈V→at_ a+at_ b<K):∀(ps:List Int) (m:Int),N m≠-1 →
  N (hU N at_ K ps m)≠-1∧∀x,jQ N (hU N at_ K ps m) x↔jQ N m x∧∀p∈ps,N p≠-1→jQ N p x
 |[],m,hm=>⟨hm,fun x=>by simp[hU]⟩
 |p::ps,m,hm=>by
  unfold hU
  by_cases hp:at_ p=-1∨N p=-1
  ·rw[if_pos hp];have hp1:N p=-1:=by
    rcases hp with hp|hp
    ·exact Classical.byContradiction fun h=>by have:=(hV.pos p).1 (hN.mem p h);omega
    exact hp
   obtain ⟨i1,i2⟩:=tj hV hN hK ps m hm;refine ⟨i1,fun x=>(i2 x).trans ⟨fun h=>⟨h.1,fun q hq hqn=>?_⟩,fun h=>⟨h.1,fun q hq=>h.2 q (.tail _ hq)⟩⟩⟩;rcases List.mem_cons.1 hq with rfl|hq
   ·exact absurd hp1 hqn
   exact h.2 q hq hqn
  rw[if_neg hp];have hp1:N p≠-1:=fun e=>hp (.inr e);have hm0:m≠-1:=fun e=>by
   have h1:=hV.nn m (hN.mem m hm);omega
  rw[if_neg hm0];obtain ⟨j1,j2⟩:=pg hV hN K m p hm hp1 (hK _ _ (hN.mem _ hm) (hN.mem _ hp1));obtain ⟨i1,i2⟩:=tj hV hN hK ps _ j1;refine ⟨i1,fun x=>(i2 x).trans ⟨fun h=>⟨((j2 x).1 h.1).1,fun q hq hqn=>?_⟩,fun h=>⟨(j2 x).2 ⟨h.1,h.2 p (.head _) hp1⟩,fun q hq=>h.2 q (.tail _ hq)⟩⟩⟩;rcases List.mem_cons.1 hq with rfl|hq
  ·exact ((j2 x).1 h.1).2
  exact h.2 q hq hqn
theorem wn (hV:vo S at_ V) (hN:kW S at_ V N) {K:Nat} (hK:∀a b,a∈V→b∈V→at_ a+at_ b<K):∀(ps:List Int),(∃p∈ps,N p≠-1) →
  N (hU N at_ K ps (-1))≠-1∧∀x,jQ N (hU N at_ K ps (-1)) x↔∀p∈ps,N p≠-1→jQ N p x
 |[],h=>by obtain ⟨_,h,_⟩:=h;cases h
 |p::ps,h=>by
  unfold hU
  by_cases hp:at_ p=-1∨N p=-1
  ·rw[if_pos hp];have hp1:N p=-1:=by
    rcases hp with hp|hp
    ·exact Classical.byContradiction fun h=>by have:=(hV.pos p).1 (hN.mem p h);omega
    exact hp
   obtain ⟨i1,i2⟩:=wn hV hN hK ps (by
    obtain ⟨q,hq,hqn⟩:=h;rcases List.mem_cons.1 hq with rfl|hq
    ·exact absurd hp1 hqn
    exact ⟨q,hq,hqn⟩)
   refine ⟨i1,fun x=>(i2 x).trans ⟨fun h q hq hqn=>?_,fun h q hq=>h q (.tail _ hq)⟩⟩;rcases List.mem_cons.1 hq with rfl|hq
   ·exact absurd hp1 hqn
   exact h q hq hqn
  rw[if_neg hp,if_pos rfl];have hp1:N p≠-1:=fun e=>hp (.inr e);obtain ⟨i1,i2⟩:=tj hV hN hK ps p hp1;refine ⟨i1,fun x=>(i2 x).trans ⟨fun h q hq hqn=>?_,fun h=>⟨h p (.head _) hp1,fun q hq=>h q (.tail _ hq)⟩⟩⟩;rcases List.mem_cons.1 hq with rfl|hq
  ·exact h.1
  exact h.2 q hq hqn
def kX (N:Int→Int) (b m:Int):Int→Int:=fun x=>if x=b then m else N x
theorem jR (N:Int→Int) (b m:Int):kX N b m b=m:=by simp[kX]
theorem fE {N:Int→Int} {b m x:Int} (h:x≠b):kX N b m x=N x:=by simp[kX,h]
structure ml (S:Int→List Int) (at_:Int→Int) (V:List Int) (N:Int→Int) (b m:Int):Prop where
 mem:b∈V
 ne:b≠0
 has:N m≠-1
 anc:∀x,jQ N m x↔∀p,b∈S p→N p≠-1→jQ N p x
 fwd:∃p,b∈S p∧N p≠-1∧at_ p<at_ b
variable {b m:Int}
theorem ml.lt (hN:kW S at_ V N) (h:ml S at_ V N b m):at_ m<at_ b:=by
 obtain ⟨p,h1,h2,h3⟩:=h.fwd;have:=(hN.anc h2 ((h.anc m).1 (.refl _) p h1 h2)).2.1;omega
theorem ml.mne (hN:kW S at_ V N) (h:ml S at_ V N b m):m≠b:=fun e=>by have:=h.lt hN;rw[e] at this;omega
theorem D5 (hN:kW S at_ V N) {x a:Int} (hx:N x≠-1) (hlt:at_ x<at_ b):jQ (kX N b m) x a↔jQ N x a:=by
 constructor
 ·intro h;induction h with
  |refl=>exact .refl _
  |@up x a h1 h2 h3 ih=>
   have hne:x≠b:=fun e=>by rw[e] at hlt;omega
   rw[fE hne] at h2 h3 ih;have:=hN.near x h1 hx;exact .up h1 hx (ih this.2.1 (by omega))
 intro h;induction h with
 |refl=>exact .refl _
 |@up x a h1 h2 h3 ih=>
  have hne:x≠b:=fun e=>by rw[e] at hlt;omega
  have:=hN.near x h1 hx;exact .up h1 (by rw[fE hne];exact hx) (by rw[fE hne];exact ih this.2.1 (by omega))
theorem MD {x a:Int} (h:jQ N x a):jQ (kX N b m) x a∨(jQ (kX N b m) x b∧jQ N x b∧jQ N b a):=by
 induction h with
 |refl=>exact .inl (.refl _)
 |@up x a h1 h2 h3 ih=>
  by_cases hxb:x=b
  ·subst hxb;exact .inr ⟨.refl _,.refl _,.up h1 h2 h3⟩
  rcases ih with h|⟨h,h',h''⟩
  ·exact .inl (.up h1 (by rw[fE hxb];exact h2) (by rw[fE hxb];exact h))
  exact .inr ⟨.up h1 (by rw[fE hxb];exact h2) (by rw[fE hxb];exact h),.up h1 h2 h',h''⟩
theorem Hs {x a:Int} (h:jQ (kX N b m) x a):jQ N x a∨(jQ N x b∧jQ (kX N b m) b a):=by
 induction h with
 |refl=>exact .inl (.refl _)
 |@up x a h1 h2 h3 ih=>
  by_cases hxb:x=b
  ·subst hxb;exact .inr ⟨.refl _,.up h1 h2 h3⟩
  rw[fE hxb] at h2 ih;rcases ih with h|⟨h,h'⟩
  ·exact .inl (.up h1 h2 h)
  exact .inr ⟨.up h1 h2 h,h'⟩
theorem ml.up (hV:vo S at_ V) (hN:kW S at_ V N) (h:ml S at_ V N b m) {a:Int}:jQ (kX N b m) b a↔a=b∨jQ N m a:=by
 have hl:=h.lt hN;have hm1:m≠-1:=fun e=>by have:=hV.nn m (hN.mem m h.has);omega
 constructor
 ·intro ha;rcases ha.cases' with e|⟨_,_,h3⟩
  ·exact .inl e
  rw[jR] at h3;exact .inr ((D5 hN h.has hl).1 h3)
 rintro (e|h3)
 ·subst e;exact .refl _
 exact .up h.ne (by rw[jR];exact hm1) (by rw[jR];exact (D5 hN h.has hl).2 h3)
theorem kW.set (hV:vo S at_ V) (hN:kW S at_ V N) (h:ml S at_ V N b m):kW S at_ V (kX N b m):=by
 have hl:=h.lt hN;have hmb:=h.mne hN;have hm1:m≠-1:=fun e=>by have:=hV.nn m (hN.mem m h.has);omega
 have hset:∀x,N x≠-1→kX N b m x≠-1:=fun x hx=>by
  unfold kX;split
  ·exact hm1
  exact hx
 refine ⟨by rw[fE h.ne.symm];exact hN.zero,fun x hx=>?_,fun x h0 hx=>?_,fun x h0 hx=>?_,fun x d hx hd=>?_⟩
 ·by_cases e:x=b
  ·subst e;exact h.mem
  rw[fE e] at hx;exact hN.mem x hx
 ·by_cases e:x=b
  ·subst e;rw[jR];exact ⟨hN.mem m h.has,hset m h.has,hl⟩
  rw[fE e] at hx ⊢;have:=hN.near x h0 hx;exact ⟨this.1,hset _ this.2.1,this.2.2⟩
 ·by_cases e:x=b
  ·subst e;rw[jR];obtain ⟨p,h1,h2,h3⟩:=h.fwd;have:=(hN.anc h2 ((h.anc m).1 (.refl _) p h1 h2)).2.2;exact .step this h1 (by omega)
  rw[fE e] at hx ⊢;exact hN.path x h0 hx
 have hb:∀d,g9 S d b→jQ (kX N b m) b d:=fun d hd=>(h.up hV hN).2 (by
  by_cases e:d=b
  ·exact .inl e
  exact .inr ((h.anc d).2 fun p hp hpn=>hN.dom p d hpn (hd.pred ((hV.mem p).1 (hN.mem p hpn)) hp e)))
 by_cases e:x=b
 ·subst e;exact hb d hd
 rw[fE e] at hx;rcases MD (b:=b) (m:=m) (hN.dom x d hx hd) with h1|⟨h1,h2,h3⟩
 ·exact h1
 refine h1.trans (hb d ?_);have hx2:=hN.anc hx h2
 by_cases hdb:d=b
 ·subst hdb;exact .refl ((hV.mem d).1 h.mem)
 refine ⟨(hV.mem b).1 h.mem,fun hw=>?_⟩;have hlt:at_ d<at_ b:=by
  rcases Int.lt_or_le (at_ d) (at_ b) with g|g
  ·exact g
  exact absurd (hN.antisymm hV hx2.1 h3 g) hdb
 exact hd.2 (hw.trans (hx2.2.2.mono fun y hy e=>by subst e;omega))
end
section
variable {S:Int→List Int} {at_:Int→Int} {V:List Int} {N:Int→Int} {b m:Int}
theorem iW.le {p:Int→Prop} {r x:Int} {k j:Nat} (h:iW S at_ p r k x) (hj:k≤j):iW S at_ p r j x:=by
 induction h generalizing j with
 |refl h=>exact .refl h
 |fwd _ h1 h2 h3 ih=>exact .fwd (ih hj) h1 h2 h3
 |back _ h1 h2 ih=>
  obtain ⟨i,rfl⟩:∃i,j=i+1:=⟨j - 1,by omega⟩;exact .back (ih (by omega)) h1 h2
theorem iW.by_ {p:Int→Prop} {r x:Int} {k:Nat} (b:Int) (h:iW S at_ p r k x):iW S at_ (fun y=>p y∧y≠b) r k x∨iW S at_ p r k b:=by
 induction h with
 |@refl k h=>
  by_cases e:r=b
  ·subst e;exact .inr (.refl h)
  exact .inl (.refl ⟨h,e⟩)
 |@fwd k c d h0 h1 h2 h3 ih=>
  rcases ih with ih|ih
  ·by_cases e:d=b
   ·subst e;exact .inr (.fwd h0 h1 h2 h3)
   exact .inl (.fwd ih h1 h2 ⟨h3,e⟩)
  exact .inr ih
 |@back k c d h0 h1 h2 ih=>
  rcases ih with ih|ih
  ·by_cases e:d=b
   ·subst e;exact .inr (.back h0 h1 h2)
   exact .inl (.back ih h1 ⟨h2,e⟩)
  exact .inr (ih.le (by omega))
theorem iW.mono {p q:Int→Prop} {r x:Int} {k:Nat} (hpq:∀y,p y→q y) (h:iW S at_ p r k x):iW S at_ q r k x:=by
 induction h with
 |refl h=>exact .refl (hpq _ h)
 |fwd _ h1 h2 h3 ih=>exact .fwd ih h1 h2 (hpq _ h3)
 |back _ h1 h2 ih=>exact .back ih h1 (hpq _ h2)
def PB (S:Int→List Int) (at_:Int→Int) (N:Int→Int) (j:Nat) (x:Int):Prop:=∀i,i<j→∀a,jQ N x a→¬iW S at_ (fun y=>y≠a) 0 i x
theorem PB.zero (x:Int):PB S at_ N 0 x:=fun i hi=>by omega
theorem PB.root (j:Nat):PB S at_ N j 0:=fun i _ a ha hw=>by
 rcases ha.cases' with rfl|⟨h,_,_⟩
 ·exact hw.end_ rfl
 exact h rfl
structure pj (S:Int→List Int) (at_:Int→Int) (V:List Int) (N:Int→Int) (j:Nat) (t:Int):Prop where
 inv:kW S at_ V N
 has:∀x,x∈V→(at_ x<t∨1≤j)→N x≠-1
 done:∀x,x∈V→at_ x<t→PB S at_ N (j+1) x
 all:∀x,x∈V→PB S at_ N j x
theorem Ht (hV:vo S at_ V) {p:Int→Prop} {x:Int} {k:Nat} (h:iW S at_ p 0 k x):x∈V:=(hV.mem x).2 (h.way.mono fun _ _=>trivial)
theorem pj.self (hV:vo S at_ V) {j:Nat} (h:pj S at_ V N j (at_ b)) (hM:ml S at_ V N b m):PB S at_ (kX N b m) (j+1) b:=fun i hi a ha hw=>by
 rcases (hM.up hV h.inv).1 ha with e|ha
 ·exact hw.end_ e.symm
 cases hw with
 |refl _=>exact hM.ne rfl
 |@fwd _ p _ h1 h2 h3 h4=>
  have hp:=Ht hV h1;have hpn:=h.has p hp (.inl h3);exact h.done p hp h3 i hi a ((hM.anc a).1 ha p h2 hpn) h1
 |@back k p _ h1 h2 h3=>
  have hp:=Ht hV h1;have hpn:=h.has p hp (.inr (by omega));exact h.all p hp k (by omega) a ((hM.anc a).1 ha p h2 hpn) h1
theorem pj.other (hV:vo S at_ V) {j:Nat} (h:pj S at_ V N j (at_ b)) (hM:ml S at_ V N b m) {x:Int} {k:Nat} (hk:k≤j+1) (hx:PB S at_ N k x):PB S at_ (kX N b m) k x:=fun i hi a ha hw=>by
 rcases Hs ha with h1|⟨h1,h2⟩
 ·exact hx i hi a h1 hw
 rcases hw.by_ b with h3|h3
 ·exact hx i hi b h1 (h3.mono fun y hy=>hy.2)
 exact h.self hV hM i (by omega) a h2 h3
theorem pj.step (hV:vo S at_ V) {j:Nat} (h:pj S at_ V N j (at_ b)) (hM:ml S at_ V N b m):pj S at_ V (kX N b m) j (at_ b+1):=by
 have hm1:m≠-1:=fun e=>by have:=hV.nn m (h.inv.mem m hM.has);omega
 refine ⟨h.inv.set hV hM,fun x hx hc=>?_,fun x hx hc=>?_,fun x hx=>h.other hV hM (by omega) (h.all x hx)⟩
 ·by_cases e:x=b
  ·subst e;rw[jR];exact hm1
  rw[fE e];refine h.has x hx ?_;rcases hc with hc|hc
  ·left
   have:at_ x≠at_ b:=fun e2=>e (hV.inj x b hx hM.mem e2);omega
  exact .inr hc
 by_cases e:x=b
 ·subst e;exact h.self hV hM
 have:at_ x≠at_ b:=fun e2=>e (hV.inj x b hx hM.mem e2);exact h.other hV hM (Nat.le_refl _) (h.done x hx (by omega))
theorem pj.next (hV:vo S at_ V) {j:Nat} {t:Int} (h:pj S at_ V N j t) (ht:∀x,x∈V→at_ x<t):pj S at_ V N (j+1) 1:=
 ⟨h.inv,fun x hx _=>h.has x hx (.inl (ht x hx)),fun x hx h1=>by
  have:x=0:=hV.inj x 0 hx hV.zmem (by rw[hV.zero];have:=(hV.pos x).1 hx;omega);subst this;exact PB.root _,fun x hx=>h.done x hx (ht x hx)⟩
theorem pj.first (hV:vo S at_ V):pj S at_ V (fun x=>if x=0 then 0 else -1) 0 1:=by
 have hN:kW S at_ V (fun x=>if x=0 then 0 else -1):=by
  refine ⟨by simp,fun x hx=>?_,fun x h0 hx=>?_,fun x h0 hx=>?_,fun x d hx hd=>?_⟩
  ·by_cases e:x=0
   ·rw[e];exact hV.zmem
   simp[e] at hx
  ·simp[h0] at hx
  ·simp[h0] at hx
  by_cases e:x=0
  ·subst e;have:d=0:=Classical.byContradiction fun hd0=>hd.2 (.refl (fun e=>hd0 e.symm));subst this;exact .refl _
  simp[e] at hx
 refine ⟨hN,fun x hx hc=>?_,fun x hx h1=>?_,fun x hx=>PB.zero x⟩
 ·rcases hc with hc|hc
  ·have:x=0:=hV.inj x 0 hx hV.zmem (by rw[hV.zero];have:=(hV.pos x).1 hx;omega);simp[this]
  omega
 have:x=0:=hV.inj x 0 hx hV.zmem (by rw[hV.zero];have:=(hV.pos x).1 hx;omega);subst this;exact PB.root _
structure mn (S:Int→List Int) (at_:Int→Int) (V:List Int) (N:Int→Int):Prop where
 inv:kW S at_ V N
 has:∀x,x∈V→N x≠-1
 anc:∀x a,x∈V→(jQ N x a↔g9 S a x)
theorem pj.exact (hV:vo S at_ V) {j:Nat} {t:Int} (h:pj S at_ V N j t) (hj:V.length≤j):mn S at_ V N:=by
 have h1:1≤j:=by
  have:0<V.length:=List.length_pos_of_mem hV.zmem;omega
 refine ⟨h.inv,fun x hx=>h.has x hx (.inr h1),fun x a hx=>⟨fun ha=>?_,fun hd=>h.inv.dom x a (h.has x hx (.inr h1)) hd⟩⟩;refine ⟨(hV.mem x).1 hx,fun hw=>?_⟩;obtain ⟨k,hk,hb⟩:=kV.short at_ V.length V (fun y=>y≠a∧kV S (fun y=>y≠a) 0 y) 0 x rfl (fun y hy=>(hV.mem y).2 (hy.2.mono fun _ _=>trivial)) hw.self;exact h.all x hx k (by omega) a ha (hb.mono fun y hy=>hy.1)
theorem mn.still (hV:vo S at_ V) (h:mn S at_ V N) (hM:ml S at_ V N b m):m=N b:=by
 have hb:=h.has b hM.mem;obtain ⟨g1,g2,g3⟩:=h.inv.near b hM.ne hb;have hl:=hM.lt h.inv;have h1:jQ N m (N b):=(hM.anc _).2 fun p hp hpn=>by
  have hd:g9 S (N b) b:=(h.anc b (N b) hM.mem).1 (.up hM.ne hb (.refl _));have hp2:=h.inv.mem p hpn;exact (h.anc p (N b) hp2).2 (hd.pred ((hV.mem p).1 hp2) hp (fun e=>by rw[e] at g3;omega))
 have h2:jQ N b m:=(h.anc b m hM.mem).2 (g9.of_preds ((hV.mem b).1 hM.mem) hM.ne fun p hp he=>by
  have hp2:=(hV.mem p).2 hp;exact (h.anc p m hp2).1 ((hM.anc m).1 (.refl _) p he (h.has p hp2)))
 rcases h2.cases' with e|⟨_,_,h3⟩
 ·rw[e] at hl;omega
 have l1:=(h.inv.anc hM.has h1).2.1;exact h.inv.antisymm hV g2 h3 (by omega)
end
def gi (l:List Int) (x:Int):Int:=if 0≤x then (l[x.toNat]?).getD (-1) else -1
theorem Hu (l:List Int) (k:Nat):gi l (k:Int)=(l[k]?).getD (-1):=by unfold gi;rw[if_pos (by omega)];rfl
theorem ie {l:List Int} {x:Int} (h0:0≤x) (h:x.toNat<l.length):l[x.toNat]?=some (gi l x):=by
 unfold gi;rw[if_pos h0,qt h];rfl
theorem xE {l:List Int} {b:Int} (h0:0≤b) (h:b.toNat<l.length) (m:Int):gi (l.set b.toNat m)=kX (gi l) b m:=by
 funext x
 unfold gi kX
 by_cases hx:0≤x
 ·rw[if_pos hx]
  by_cases e:x=b
  ·subst e;rw[if_pos rfl,List.getElem?_set_self h];rfl
  rw[if_neg e,List.getElem?_set_ne (by omega)];dsimp only;rw[if_pos hx]
 rw[if_neg hx,if_neg (by omega)];dsimp only;rw[if_neg hx]
theorem CG {l:List Int} {x:Int} (h:x<0∨(l.length:Int)≤x):gi l x=-1:=by
 unfold gi;split
 ·rw[List.getElem?_eq_none (by omega)];rfl
 rfl
theorem ME {l m:List Int} (hl:l.length=m.length) (h:∀x,gi l x=gi m x):l=m:=by
 refine List.ext_getElem hl fun k h1 h2=>?_;have:=h (k:Int);rw[Hu,Hu,qt h1,qt h2] at this
 simpa using this
theorem zS {l:List Int} {b:Int} (h0:0≤b):l.set b.toNat (gi l b)=l:=by
 by_cases h:b.toNat<l.length
 ·have:=ie h0 h;refine List.ext_getElem? fun k=>?_
  by_cases e:k=b.toNat
  ·subst e;rw[List.getElem?_set_self h,this]
  rw[List.getElem?_set_ne (fun e2=>e e2.symm)]
 exact List.set_eq_of_length_le (by omega)
def eR (n:Nat) (V:List Int):List Int:=(V.zipIdx).foldl (fun l p=>l.set p.1.toNat (p.2:Int)) (List.replicate n (-1))
def lj (at_:List Int) (K:Nat) (preds:Int→List Int) (l:List Int) (b:Int):List Int:=l.set b.toNat (hU (gi l) (gi at_) K (preds b) (-1))
def wo (at_:List Int) (K:Nat) (preds:Int→List Int) (V:List Int) (l:List Int):List Int:=V.tail.foldl (lj at_ K preds) l
def passN (at_:List Int) (K:Nat) (preds:Int→List Int) (V:List Int) (l:List Int):Nat→List Int
 |0=>l
 |k+1=>wo at_ K preds V (passN at_ K preds V l k)
def gv (n:Nat):List Int:=(List.replicate n (-1)).set 0 0
structure p6 (S:Int→List Int) (at_:List Int) (V:List Int) (preds:Int→List Int) (n:Nat):Prop where
 ord:vo S (gi at_) V
 lt:∀b∈V,b<n
 row:∀(k:Nat),k<V.length→gi at_ (V[k]?.getD 0)=k
 preds:∀b∈V,∀p,p∈preds b↔b∈S p
section
variable {S:Int→List Int} {at_ V:List Int} {preds:Int→List Int} {n:Nat}
theorem p6.pos (h:p6 S at_ V preds n):0<V.length:=List.length_pos_of_mem h.ord.zmem
theorem p6.at_lt (h:p6 S at_ V preds n) {b:Int} (hb:b∈V):∃k,k<V.length∧V[k]?=some b∧gi at_ b=k:=by
 obtain ⟨k,hk,e⟩:=List.mem_iff_getElem.1 hb;have:=h.row k hk;rw[qt hk] at this;exact ⟨k,hk,by rw[qt hk,e],by rw[←e];exact this⟩
theorem p6.K (h:p6 S at_ V preds n):∀a b,a∈V→b∈V→gi at_ a+gi at_ b<((2*V.length:Nat):Int):=fun a b ha hb=>by
 obtain ⟨j,hj,_,e1⟩:=h.at_lt ha;obtain ⟨k,hk,_,e2⟩:=h.at_lt hb;rw[e1,e2];omega
theorem p6.meets (h:p6 S at_ V preds n) {l:List Int} {j:Nat} {b:Int} (hR:pj S (gi at_) V (gi l) j (gi at_ b)) (hb:b∈V) (h0:b≠0):ml S (gi at_) V (gi l) b (hU (gi l) (gi at_) (2*V.length) (preds b) (-1)):=by
 obtain ⟨p,h1,h2,h3⟩:=h.ord.fwd b hb h0;have hp:=hR.has p h1 (.inl h3);obtain ⟨g1,g2⟩:=wn h.ord hR.inv h.K (preds b) ⟨p,(h.preds b hb p).2 h2,hp⟩;exact ⟨hb,h0,g1,fun x=>(g2 x).trans ⟨fun hh q hq=>hh q ((h.preds b hb q).2 hq),fun hh q hq=>hh q ((h.preds b hb q).1 hq)⟩,p,h2,hp,h3⟩
theorem p6.step (h:p6 S at_ V preds n) {l:List Int} {j k:Nat} {b:Int} (hl:l.length=n) (hk:0<k) (hb:V[k]?=some b) (hR:pj S (gi at_) V (gi l) j k) :
  pj S (gi at_) V (gi (lj at_ (2*V.length) preds l b)) j ((k+1:Nat):Int)∧(V.length≤j→lj at_ (2*V.length) preds l b=l)∧gi at_ b=k∧b∈V∧b≠0:=by
 obtain ⟨hk2,e⟩:=List.getElem?_eq_some_iff.1 hb;have hbm:b∈V:=e▸qx hk2;have hat:gi at_ b=k:=by have:=h.row k hk2;rw[hb] at this;exact this
 have hb0:b≠0:=fun e2=>by rw[e2,h.ord.zero] at hat;omega
 have hnn:=h.ord.nn b hbm;have hblt:=h.lt b hbm;rw[←hat] at hR;have hM:=h.meets hR hbm hb0;have hset:=xE (l:=l) hnn (by omega) (hU (gi l) (gi at_) (2*V.length) (preds b) (-1));refine ⟨?_,fun hj=>?_,hat,hbm,hb0⟩
 ·have:=hR.step h.ord hM;unfold lj;rw[hset];rw[hat] at this;exact this
 have:=(hR.exact h.ord hj).still h.ord hM;unfold lj;rw[this,zS hnn]
theorem wq (K:Nat) (l:List Int) (b:Int):(lj at_ K preds l b).length=l.length:=by unfold lj;rw[List.length_set]
theorem tk (K:Nat):∀(bs:List Int) (l:List Int),(bs.foldl (lj at_ K preds) l).length=l.length
 |[],_=>rfl
 |b::bs,l=>by rw[List.foldl_cons,tk K bs,wq]
theorem p6.fold (h:p6 S at_ V preds n) {j:Nat}:∀(bs:List Int) (k:Nat) (l:List Int),l.length=n→0<k→V.drop k=bs→pj S (gi at_) V (gi l) j k →
  pj S (gi at_) V (gi (bs.foldl (lj at_ (2*V.length) preds) l)) j ((max k V.length:Nat):Int)
 |[],k,l,hl,hk,hd,hR=>by
  have:V.length≤k:=by have:=congrArg List.length hd;simp at this;omega
  rw[Nat.max_eq_left this];exact hR
 |b::bs,k,l,hl,hk,hd,hR=>by
  have hk2:k<V.length:=by have:=congrArg List.length hd;simp at this;omega
  have hb:V[k]?=some b:=by have:=congrArg (fun z:List Int=>z[0]?) hd;simpa using this
  have:=p6.fold h bs (k+1) _ (by rw[wq,hl]) (by omega) (by rw[←List.drop_drop,hd];rfl) (h.step hl hk hb hR).1;rw[List.foldl_cons]
  rwa [show max (k+1) V.length=max k V.length by omega] at this
theorem p6.pass (h:p6 S at_ V preds n) {j:Nat} {l:List Int} (hl:l.length=n) (hR:pj S (gi at_) V (gi l) j 1):pj S (gi at_) V (gi (wo at_ (2*V.length) preds V l)) (j+1) 1:=by
 have h1:=h.fold (j:=j) V.tail 1 l hl (by omega) (by rw[List.drop_one]) hR;refine h1.next h.ord fun x hx=>?_
 obtain ⟨k,hk,_,e⟩:=h.at_lt hx;rw[e];have:=h.pos;omega
theorem Fo (K:Nat) (l:List Int):(wo at_ K preds V l).length=l.length:=tk K _ _
theorem nA (K:Nat) (l:List Int):∀k,(passN at_ K preds V l k).length=l.length
 |0=>rfl
 |k+1=>by rw[passN,Fo,nA K l k]
theorem p6.fixed (h:p6 S at_ V preds n) {j:Nat} {l:List Int} (hl:l.length=n) (hR:pj S (gi at_) V (gi l) j 1) (hf:wo at_ (2*V.length) preds V l=l):mn S (gi at_) V (gi l):=by
 have:∀i,pj S (gi at_) V (gi l) (j+i) 1:=fun i=>by
  induction i with
  |zero=>exact hR
  |succ i ih=>have:=h.pass hl ih;rw[hf] at this;exact this
 exact (this V.length).exact h.ord (by omega)
theorem pk (hn:0<n):gi (gv n)=fun x=>if x=0 then 0 else -1:=by
 funext x
 unfold gv;have:=xE (l:=List.replicate n (-1)) (b:=0) (by omega) (by simp;exact hn) 0;rw[show (0:Int).toNat=0 from rfl] at this;rw[this];unfold kX;split
 ·rfl
 unfold gi;split
 ·rw[List.getElem?_replicate];split<;>rfl
 rfl
theorem p6.npos (h:p6 S at_ V preds n):0<n:=by have:=h.lt 0 h.ord.zmem;omega
theorem p6.begin (h:p6 S at_ V preds n):pj S (gi at_) V (gi (gv n)) 0 1:=by
 rw[pk h.npos];exact pj.first h.ord
theorem p6.passN (h:p6 S at_ V preds n):∀k,pj S (gi at_) V (gi (passN at_ (2*V.length) preds V (gv n) k)) k 1
 |0=>h.begin
 |k+1=>h.pass (by rw[nA];simp[gv]) (h.passN k)
def wt (at_:List Int) (V:List Int) (preds:Int→List Int) (n:Nat):List Int:=Go.Proofs.YtbbonnfjealmpaaGreatDoor.passN at_ (2*V.length) preds V (gv n) V.length
theorem p6.near (h:p6 S at_ V preds n):mn S (gi at_) V (gi (wt at_ V preds n)):=(h.passN V.length).exact h.ord (Nat.le_refl _)
theorem mn.unique {at_:Int→Int} {N Mq0:Int→Int} (hV:vo S at_ V) (h1:mn S at_ V N) (h2:mn S at_ V Mq0):N=Mq0:=by
 funext x
 by_cases hx:x∈V
 ·by_cases h0:x=0
  ·rw[h0,h1.inv.zero,h2.inv.zero]
  have key:∀{N Mq0:Int→Int},mn S at_ V N→mn S at_ V Mq0→at_ (N x)≤at_ (Mq0 x):=fun {N Mq0} h1 h2=>by
   obtain ⟨g1,g2,g3⟩:=h1.inv.near x h0 (h1.has x hx);have hd:=(h1.anc x (N x) hx).1 (.up h0 (h1.has x hx) (.refl _));rcases ((h2.anc x (N x) hx).2 hd).cases' with e|⟨_,_,h3⟩
   ·rw[e] at g3;omega
   obtain ⟨k1,k2,k3⟩:=h2.inv.near x h0 (h2.has x hx);exact (h2.inv.anc k2 h3).2.1
  have e1:=key h1 h2;have e2:=key h2 h1;exact hV.inj _ _ (h1.inv.near x h0 (h1.has x hx)).1 (h2.inv.near x h0 (h2.has x hx)).1 (by omega)
 have e1:N x=-1:=Classical.byContradiction fun h=>hx (h1.inv.mem x h);have e2:Mq0 x=-1:=Classical.byContradiction fun h=>hx (h2.inv.mem x h);rw[e1,e2]
theorem p6.near_eq (h:p6 S at_ V preds n) {l:List Int} (hl:l.length=n) (hE:mn S (gi at_) V (gi l)):l=wt at_ V preds n:=
 ME (by rw[hl];unfold wt;rw[nA];simp[gv]) fun x=>congrFun (hE.unique h.ord h.near) x
end
abbrev Ku:=List Bool × List Int × List (Int × Nat)
def gb (l:List Bool) (x:Int):Bool:=(l[x.toNat]?).getD false
def ge (l:List Int) (k:Nat):Int:=(l[k]?).getD 0
def wu (E:Int→List Int):Ku→Ku
 |(seen,out,[])=>(seen,out,[])
 |(seen,out,(b,k)::r)=>if k=(E b).length then (seen,out++[b],r) else
   if gb seen (ge (E b) k) then (seen,out,(b,k+1)::r) else (seen.set (ge (E b) k).toNat true,out,(ge (E b) k,0)::(b,k+1)::r)
theorem oo (E:Int→List Int) (seen:List Bool) (out:List Int) (b:Int) (k:Nat) (r:List (Int × Nat)):wu E (seen,out,(b,k)::r)=if k=(E b).length then (seen,out++[b],r) else
   if gb seen (ge (E b) k) then (seen,out,(b,k+1)::r) else (seen.set (ge (E b) k).toNat true,out,(ge (E b) k,0)::(b,k+1)::r):=rfl
def tm (n:Nat):Ku:=((List.replicate n false).set 0 true,[],[(0,0)])
def fZ (E:Int→List Int) (n:Nat):Nat→Ku
 |0=>tm n
 |k+1=>wu E (fZ E n k)
def aI (E:Int→List Int) (n:Nat):List Int:=(fZ E n (4*n)).2.1.reverse
structure EOk (E:Int→List Int) (n:Nat):Prop where
 npos:0<n
 rng:∀b:Int,0≤b→b<n→∀c∈E b,0≤c∧c<n
 len:∀b,(E b).length≤2
def Hv (E:Int→List Int):List Int→List Int→Prop
 |[],_=>True
 |v::r,s=>(v=0∨∃p,v∈E p∧(p∈r∨p∈s))∧Hv E r s
structure vx (E:Int→List Int) (n:Nat) (x:Ku):Prop where
 len:x.1.length=n
 rng:∀v,v∈x.2.1++x.2.2.map Prod.fst→0≤v∧v<n
 seen:∀v,0≤v→(gb x.1 v=true↔v∈x.2.1++x.2.2.map Prod.fst)
 nodup:(x.2.1++x.2.2.map Prod.fst).Nodup
 rch:∀v,v∈x.2.1++x.2.2.map Prod.fst→oV E v
 done:∀b∈x.2.1,∀c∈E b,c∈x.2.1++x.2.2.map Prod.fst
 part:∀q∈x.2.2,q.2≤(E q.1).length∧∀i,i<q.2→ge (E q.1) i∈x.2.1++x.2.2.map Prod.fst
 led:Hv E (x.2.1++x.2.2.map Prod.fst) []
 last:(x.2.1++x.2.2.map Prod.fst).getLast?=some 0
theorem D6 {E:Int→List Int}:∀{l r s:List Int},Hv E (l++r) s↔Hv E l (r++s)∧Hv E r s
 |[],r,s=>by simp[Hv]
 |v::l,r,s=>by
  rw[List.cons_append,Hv,Hv,D6 (l:=l)]
  constructor
  ·rintro ⟨h,h1,h2⟩;refine ⟨⟨?_,h1⟩,h2⟩;rcases h with h|⟨p,h,h3⟩
   ·exact .inl h
   exact .inr ⟨p,h,by simp only[List.mem_append] at h3 ⊢;rcases h3 with (h3|h3)|h3<;>simp[h3]⟩
  rintro ⟨⟨h,h1⟩,h2⟩;refine ⟨?_,h1,h2⟩;rcases h with h|⟨p,h,h3⟩
  ·exact .inl h
  exact .inr ⟨p,h,by simp only[List.mem_append] at h3 ⊢;rcases h3 with h3|h3|h3<;>simp[h3]⟩
theorem Hw {l:List Bool} {v:Int} (h0:0≤v) (hl:v.toNat<l.length) {x:Int} (hx:0≤x):gb (l.set v.toNat true) x=true↔x=v∨gb l x=true:=by
 unfold gb
 by_cases e:x=v
 ·subst e;rw[List.getElem?_set_self hl];simp
 rw[List.getElem?_set_ne (by omega)];simp[e]
theorem vx.begin {E:Int→List Int} {n:Nat} (hE:EOk E n):vx E n (tm n):=by
 have hn:=hE.npos;refine ⟨by simp[tm],fun v hv=>?_,fun v hv=>?_,by simp[tm],fun v hv=>?_,fun b hb=>by simp[tm] at hb,fun q hq=>?_,⟨.inl rfl,trivial⟩,rfl⟩
 ·simp[tm] at hv;omega
 ·have:=Hw (l:=List.replicate n false) (v:=0) (by omega) (by simp;exact hn) hv;show gb ((List.replicate n false).set 0 true) v=true↔v∈[]++[0];rw[show (0:Int).toNat=0 from rfl] at this;rw[this];have h2:gb (List.replicate n false) v=false:=by unfold gb;rw[List.getElem?_replicate];split<;>rfl
  simp[h2]
 ·simp[tm] at hv;subst hv;exact .refl trivial
 simp[tm] at hq;subst hq;exact ⟨qw _,fun i hi=>by omega⟩
theorem vx.step {E:Int→List Int} {n:Nat} (hE:EOk E n) {x:Ku} (h:vx E n x):vx E n (wu E x):=by
 obtain ⟨seen,out,st⟩:=x;cases st with
 |nil=>exact h
 |cons q r=>
  obtain ⟨b,k⟩:=q;obtain ⟨hlen,hrng,hseen,hnd,hrch,hdone,hpart,hled,hlast⟩:=h;dsimp only at hlen hrng hseen hnd hrch hdone hpart hled hlast;rw[List.map_cons] at hrng hseen hnd hrch hdone hpart hled hlast;have hb:=hpart (b,k) (.head _);dsimp only at hb;rw[oo]
  by_cases hk:k=(E b).length
  ·rw[if_pos hk];have e:(out++[b])++r.map Prod.fst=out++b::r.map Prod.fst:=by simp
   refine ⟨hlen,?_,?_,?_,?_,?_,?_,?_,?_⟩<;>dsimp only<;>rw[e]
   ·exact hrng
   ·exact hseen
   ·exact hnd
   ·exact hrch
   ·intro c hc;rcases List.mem_append.1 hc with hc|hc
    ·exact hdone c hc
    obtain rfl:=List.mem_singleton.1 hc;intro d hd;obtain ⟨i,hi,rfl⟩:=List.mem_iff_getElem.1 hd;have:=hb.2 i (by omega);unfold ge at this
    rwa [qt hi] at this
   ·exact fun q hq=>hpart q (.tail _ hq)
   ·exact hled
   exact hlast
  rw[if_neg hk];have hk2:k<(E b).length:=by omega
  have hge:ge (E b) k=(E b)[k]:=by unfold ge;rw[qt hk2];rfl
  have hmem:ge (E b) k∈E b:=hge▸qx hk2;obtain ⟨c,hc⟩:∃c,ge (E b) k=c:=⟨_,rfl⟩;rw[hc] at hmem ⊢;have hbr:=hrng b (by simp);have hcr:=hE.rng b hbr.1 hbr.2 c hmem
  by_cases hs:gb seen c=true
  ·rw[if_pos hs];refine ⟨hlen,?_,?_,?_,?_,?_,fun q hq=>?_,?_,?_⟩<;>dsimp only<;>rw[List.map_cons]
   ·exact hrng
   ·exact hseen
   ·exact hnd
   ·exact hrch
   ·exact hdone
   ·rcases List.mem_cons.1 hq with rfl|hq
    ·refine ⟨hk2,fun i hi=>?_⟩
     by_cases e:i=k
     ·subst e;dsimp only;rw[hc];exact (hseen c hcr.1).1 hs
     exact hb.2 i (by dsimp only at hi;omega)
    exact hpart q (.tail _ hq)
   ·exact hled
   exact hlast
  rw[if_neg hs];have hnm:c ∉ out++b::r.map Prod.fst:=fun hm=>hs ((hseen c hcr.1).2 hm);have hmm:∀v,v∈out++(c::b::r.map Prod.fst)↔v=c∨v∈out++b::r.map Prod.fst:=fun v=>by
   simp only[List.mem_append,List.mem_cons]
   constructor
   ·rintro (h|h|h|h)<;>simp[h]
   rintro (h|h|h|h)<;>simp[h]
  refine ⟨by dsimp only;rw[List.length_set];exact hlen,?_,fun v hv=>?_,?_,?_,?_,fun q hq=>?_,?_,?_⟩<;>dsimp only<;>rw[List.map_cons,List.map_cons]
  ·intro v hv;rcases (hmm v).1 hv with rfl|hv
   ·exact hcr
   exact hrng v hv
  ·rw[Hw hcr.1 (by omega) hv,hmm,hseen v hv]
  ·have:(out++c::b::r.map Prod.fst).Perm (c::(out++b::r.map Prod.fst)):=List.perm_middle;rw[this.nodup_iff,List.nodup_cons];exact ⟨hnm,hnd⟩
  ·intro v hv;rcases (hmm v).1 hv with rfl|hv
   ·exact .step (hrch b (by simp)) hmem trivial
   exact hrch v hv
  ·exact fun a ha d hd=>(hmm d).2 (.inr (hdone a ha d hd))
  ·rcases List.mem_cons.1 hq with rfl|hq
   ·exact ⟨qw _,fun i hi=>by dsimp only at hi;omega⟩
   rcases List.mem_cons.1 hq with rfl|hq
   ·refine ⟨hk2,fun i hi=>(hmm _).2 ?_⟩
    by_cases e:i=k
    ·subst e;left;exact hc
    exact .inr (hb.2 i (by dsimp only at hi;omega))
   exact ⟨(hpart q (.tail _ hq)).1,fun i hi=>(hmm _).2 (.inr ((hpart q (.tail _ hq)).2 i hi))⟩
  ·rw[D6] at hled ⊢;refine ⟨?_,.inr ⟨b,hmem,.inl (.head _)⟩,hled.2⟩;have weak:∀(l s t:List Int),(∀x∈s,x∈t)→Hv E l s→Hv E l t:=fun l s t hst=>by
    induction l with
    |nil=>exact fun _=>trivial
    |cons v l ih=>
     rintro ⟨h1,h2⟩;refine ⟨?_,ih h2⟩;rcases h1 with h1|⟨p,h1,h3⟩
     ·exact .inl h1
     exact .inr ⟨p,h1,h3.imp id (hst p)⟩
   exact weak _ _ _ (fun x hx=>by simp only[w8] at hx ⊢;exact .tail _ hx) hled.1
  rw[List.getLast?_append,List.getLast?_cons_cons];rw[List.getLast?_append] at hlast;exact hlast
def pl (x:Ku):Nat:=4*(x.1.filter (fun b=>!b)).length+(x.2.2.map fun q=>3 - q.2).sum
theorem lT:∀(l:List Bool) (i:Nat),l[i]?=some false→((l.set i true).filter (fun b=>!b)).length+1=(l.filter (fun b=>!b)).length
 |[],i,h=>by simp at h
 |b::l,0,h=>by simp at h;subst h;simp
 |b::l,i+1,h=>by
  have:=lT l i (by simpa using h);cases b<;>simp<;>omega
theorem vx.less {E:Int→List Int} {n:Nat} (hE:EOk E n) {x:Ku} (h:vx E n x) (hs:x.2.2≠[]):pl (wu E x)<pl x:=by
 obtain ⟨seen,out,st⟩:=x;cases st with
 |nil=>exact absurd rfl hs
 |cons q r=>
  obtain ⟨b,k⟩:=q;have hb:=h.part (b,k) (.head _);have hl2:=hE.len b;have hbr:=h.rng b (by simp);dsimp only at hb;rw[oo];unfold pl
  by_cases hk:k=(E b).length
  ·rw[if_pos hk];simp;omega
  rw[if_neg hk];have hk2:k<(E b).length:=by omega
  have hge:ge (E b) k=(E b)[k]:=by unfold ge;rw[qt hk2];rfl
  have hcr:=hE.rng b hbr.1 hbr.2 _ (hge▸qx hk2);split
  ·simp;omega
  rename_i hg;have hlt:(ge (E b) k).toNat<seen.length:=by have:=h.len;dsimp only at this;omega
  have:=lT seen (ge (E b) k).toNat (by
   unfold gb at hg;rw[qt hlt] at hg ⊢
   simpa using hg)
  simp;omega
theorem qD {E:Int→List Int} {x:Ku} (h:x.2.2=[]):wu E x=x:=by
 obtain ⟨seen,out,st⟩:=x;dsimp only at h;subst h;rfl
section
variable {E:Int→List Int} {n:Nat} (hE:EOk E n)
include hE
theorem gk:∀k,vx E n (fZ E n k)
 |0=>vx.begin hE
 |k+1=>(gk k).step hE
theorem MF:pl (tm n)<4*n:=by
 have hn:=hE.npos;have:=lT (List.replicate n false) 0 (by rw[List.getElem?_replicate,if_pos hn]);have h2:((List.replicate n false).filter fun b=>!b).length=n:=by simp
 unfold pl tm;simp at this ⊢;omega
theorem tn:∀k,(fZ E n k).2.2=[]∨pl (fZ E n k)+k<4*n
 |0=>.inr (by have:=MF hE;simpa [fZ] using this)
 |k+1=>by
  rcases tn k with h|h
  ·left;rw[fZ,qD h];exact h
  by_cases hs:(fZ E n k).2.2=[]
  ·left;rw[fZ,qD hs];exact hs
  right
  have:=(gk hE k).less hE hs;rw[fZ];omega
theorem sE:(fZ E n (4*n)).2.2=[]:=by
 rcases tn hE (4*n) with h|h
 ·exact h
 omega
omit hE in
theorem Fp {k:Nat} (h:(fZ E n k).2.2=[]) (hk:k≤4*n):fZ E n (4*n)=fZ E n k:=by
 have:∀j,fZ E n (k+j)=fZ E n k:=fun j=>by
  induction j with
  |zero=>rfl
  |succ j ih=>rw[←Nat.add_assoc,fZ,ih,qD h]
 have h2:=this (4*n - k)
 rwa [show k+(4*n - k)=4*n by omega] at h2
theorem b9 (v:Int):v∈aI E n↔oV E v:=by
 have h:=gk hE (4*n);have he:=sE hE;unfold aI;obtain ⟨hlen,hrng,hseen,hnd,hrch,hdone,hpart,hled,hlast⟩:=h;rw[he] at hrng hseen hnd hrch hdone hpart hled hlast;simp only[List.map_nil,w8] at hrng hseen hnd hrch hdone hpart hled hlast;rw[List.mem_reverse];refine ⟨hrch v,fun hr=>?_⟩;unfold oV at hr;induction hr with
 |refl _=>exact List.mem_of_getLast? hlast
 |step _ h1 _ ih=>exact hdone _ ih _ h1
theorem da {v:Int} (hv:v∈aI E n):0≤v∧v<n:=by
 have h:=(gk hE (4*n)).rng;exact h v (List.mem_append_left _ (by unfold aI at hv;exact List.mem_reverse.1 hv))
theorem kG:(aI E n).Nodup:=by
 have h:=(gk hE (4*n)).nodup;rw[sE hE] at h;unfold aI;rw[(List.reverse_perm _).nodup_iff]
 simpa using h
theorem oq:(aI E n)[0]?=some 0:=by
 have h:=(gk hE (4*n)).last;rw[sE hE] at h;unfold aI;rw[←List.head?_eq_getElem?,List.head?_reverse]
 simpa using h
theorem Fq (k:Nat) (v:Int) (hk:(aI E n)[k]?=some v) (h0:v≠0):∃(j:Nat) (p:Int),j<k∧(aI E n)[j]?=some p∧v∈E p:=by
 have h:=(gk hE (4*n)).led;rw[sE hE] at h;simp only[List.map_nil,w8] at h;unfold aI at hk ⊢
 generalize (fZ E n (4*n)).2.1=out at h hk ⊢
 have key:∀(out:List Int),Hv E out []→∀k,out.reverse[k]?=some v→∃(j:Nat) (p:Int),j<k∧out.reverse[j]?=some p∧v∈E p:=fun out=>by
  induction out with
  |nil=>intro _ k hk;simp at hk
  |cons w out ih=>
   rintro ⟨h1,h2⟩ k hk;rw[List.reverse_cons] at hk ⊢
   by_cases hlt:k<out.reverse.length
   ·rw[List.getElem?_append_left hlt] at hk;obtain ⟨j,p,h3,h4,h5⟩:=ih h2 k hk;exact ⟨j,p,h3,by rw[List.getElem?_append_left (by omega)];exact h4,h5⟩
   rw[List.getElem?_append_right (by omega)] at hk;have hk0:k=out.reverse.length∧w=v:=by
    cases hq:k - out.reverse.length with
    |zero=>rw[hq] at hk;simp at hk;exact ⟨by omega,hk⟩
    |succ q=>rw[hq] at hk;simp at hk
   obtain ⟨rfl,rfl⟩:=hk0;rcases h1 with h1|⟨p,h1,h3⟩
   ·exact absurd h1 h0
   have h3:p∈out.reverse:=by simpa using h3
   obtain ⟨j,hj,e⟩:=List.mem_iff_getElem.1 h3;exact ⟨j,p,hj,by rw[List.getElem?_append_left hj,qt hj,e],h1⟩
 exact key out h k hk
end
def ba (n:Nat):List Int:=(List.range n).map Int.ofNat
theorem ot {n k:Nat} (h:k<n):(ba n)[k]?=some (k:Int):=by unfold ba;rw[w3,List.getElem?_range h];rfl
theorem cA (n:Nat):(ba n).length=n:=by simp[ba]
theorem dR {n:Nat} {x:Int}:x∈ba n↔0≤x∧x<n:=by
 unfold ba;rw[List.mem_map]
 constructor
 ·rintro ⟨k,hk,rfl⟩;have:=List.mem_range.1 hk;exact ⟨Int.natCast_nonneg k,Int.ofNat_lt.2 this⟩
 rintro ⟨h0,h1⟩;exact ⟨x.toNat,List.mem_range.2 (by omega),we h0⟩
theorem rA (n:Nat):ba (n+1)=ba n++[(n:Int)]:=by unfold ba;rw[List.range_succ,w7];rfl
def bm (E:Int→List Int) (n:Nat) (b:Int):List Int:=(ba n).flatMap fun i=>((E i).filter fun c=>decide (c=b)).map fun _=>i
theorem j6 {E:Int→List Int} {n:Nat} {b p:Int} (hE:EOk E n) (ho:∀x:Int,¬(0≤x∧x<n)→E x=[]):p∈bm E n b↔b∈E p:=by
 unfold bm;rw[List.mem_flatMap]
 constructor
 ·rintro ⟨i,hi,h⟩;obtain ⟨c,hc,rfl⟩:=List.mem_map.1 h;obtain ⟨h1,h2⟩:=List.mem_filter.1 hc;have h2:c=b:=by simpa using h2
  exact h2▸h1
 intro h;have hp:0≤p∧p<n:=Classical.byContradiction fun hn=>by rw[ho p hn] at h;cases h
 exact ⟨p,dR.2 hp,List.mem_map.2 ⟨b,List.mem_filter.2 ⟨h,by simp⟩,rfl⟩⟩
theorem xF {l:List Int} {b:Int} (h0:0≤b) (h:b.toNat<l.length) (m x:Int):gi (l.set b.toNat m) x=if x=b then m else gi l x:=by rw[xE h0 h];rfl
theorem tq (n:Nat):∀(W:List Int) (i:Nat) (l:List Int),l.length=n→W.Nodup→(∀b∈W,0≤b∧b<n) →
  ((W.zipIdx i).foldl (fun l p=>l.set p.1.toNat (p.2:Int)) l).length=n∧(∀(k:Nat) b,W[k]?=some b→gi ((W.zipIdx i).foldl (fun l p=>l.set p.1.toNat (p.2:Int)) l) b=((i+k:Nat):Int)) ∧
  ∀b,b ∉ W→gi ((W.zipIdx i).foldl (fun l p=>l.set p.1.toNat (p.2:Int)) l) b=gi l b
 |[],i,l,hl,_,_=>⟨hl,fun k b h=>by simp at h,fun b _=>rfl⟩
 |v::W,i,l,hl,hW,hr=>by
  rw[List.zipIdx_cons,List.foldl_cons];rw[List.nodup_cons] at hW;have hv:=hr v (.head _);obtain ⟨g1,g2,g3⟩:=tq n W (i+1) (l.set v.toNat (i:Int)) (by rw[List.length_set];exact hl) hW.2 fun b hb=>hr b (.tail _ hb);refine ⟨g1,fun k b h=>?_,fun b hb=>?_⟩
  ·cases k with
   |zero=>
    simp at h;subst h;rw[g3 _ hW.1,xF hv.1 (by omega),if_pos rfl];rfl
   |succ k=>
    rw[g2 k b (by simpa using h)];omega
  rw[g3 b (fun h=>hb (.tail _ h)),xF hv.1 (by omega),if_neg (fun e=>hb (by rw[e];exact .head _))]
theorem MG (n:Nat) (x:Int):gi (List.replicate n (-1)) x=-1:=by
 unfold gi;split
 ·rw[List.getElem?_replicate];split<;>rfl
 rfl
structure gx (E:Int→List Int) (n:Nat):Prop extends EOk E n where
 out:∀x:Int,¬(0≤x∧x<n)→E x=[]
section
variable {E:Int→List Int} {n:Nat} (hE:gx E n)
include hE
theorem mT {k:Nat} {b:Int} (h:(aI E n)[k]?=some b):gi (eR n (aI E n)) b=k:=by
 have:=(tq n (aI E n) 0 (List.replicate n (-1)) (by simp) (kG hE.toEOk) fun b hb=>da hE.toEOk hb).2.1 k b h;rw[Nat.zero_add] at this;exact this
theorem D7 {b:Int} (h:b ∉ aI E n):gi (eR n (aI E n)) b=-1:=by
 have:=(tq n (aI E n) 0 (List.replicate n (-1)) (by simp) (kG hE.toEOk) fun b hb=>da hE.toEOk hb).2.2 b h;rw[MG] at this;exact this
theorem gx.gok:p6 E (eR n (aI E n)) (aI E n) (bm E n) n:=by
 have hpos:∀b,b∈aI E n↔0≤gi (eR n (aI E n)) b:=fun b=>by
  constructor
  ·intro hb;obtain ⟨k,hk,e⟩:=List.mem_iff_getElem.1 hb;rw[mT hE (k:=k) (by rw[qt hk,e])];omega
  intro h;refine Classical.byContradiction fun hb=>?_;rw[D7 hE hb] at h;omega
 refine ⟨⟨b9 hE.toEOk,hpos,fun a b ha hb e=>?_,mT hE (k:=0) (oq hE.toEOk),fun b hb h0=>?_,fun b hb=>D7 hE hb,fun b hb=>(da hE.toEOk hb).1⟩,fun b hb=>(da hE.toEOk hb).2,fun k hk=>?_,fun b _ p=>j6 hE.toEOk hE.out⟩
 ·obtain ⟨j,hj,e1⟩:=List.mem_iff_getElem.1 ha;obtain ⟨k,hk,e2⟩:=List.mem_iff_getElem.1 hb;rw[mT hE (k:=j) (by rw[qt hj,e1]),mT hE (k:=k) (by rw[qt hk,e2])] at e;have:j=k:=by omega
  subst this;rw[←e1,←e2]
 ·obtain ⟨k,hk,e⟩:=List.mem_iff_getElem.1 hb;obtain ⟨j,p,h1,h2,h3⟩:=Fq hE.toEOk k b (by rw[qt hk,e]) h0;refine ⟨p,?_,h3,?_⟩
  ·obtain ⟨hj,e2⟩:=List.getElem?_eq_some_iff.1 h2;exact e2▸qx hj
  rw[mT hE h2,mT hE (k:=k) (by rw[qt hk,e])];omega
 rw[qt hk];exact mT hE (qt hk)
end
def db (E:Int→List Int) (n:Nat):List Int:=wt (eR n (aI E n)) (aI E n) (bm E n) n
theorem nB (E:Int→List Int) (n:Nat):(db E n).length=n:=by unfold db wt;rw[nA];simp[gv]
def zT (N l:List Int) (b:Int):List Int:=l.set b.toNat (gi l (gi N b)+1)
def cM (E:Int→List Int) (n:Nat):List Int:=(aI E n).tail.foldl (zT (db E n)) (gv n)
theorem zU (N l:List Int) (b:Int):(zT N l b).length=l.length:=by unfold zT;rw[List.length_set]
section
variable {E:Int→List Int} {n:Nat} (hE:gx E n)
include hE
theorem gx.exact:mn E (gi (eR n (aI E n))) (aI E n) (gi (db E n)):=hE.gok.near
theorem gx.near_mem {b:Int} (hb:b∈aI E n) (h0:b≠0):gi (db E n) b∈aI E n∧gi (eR n (aI E n)) (gi (db E n) b)<gi (eR n (aI E n)) b:=by
 have:=hE.exact.inv.near b h0 (hE.exact.has b hb);exact ⟨this.1,this.2.2⟩
structure sg (E:Int→List Int) (n:Nat) (l:List Int) (k:Nat):Prop where
 len:l.length=n
 zero:gi l 0=0
 row:∀b∈aI E n,b≠0→gi (eR n (aI E n)) b<k→gi l b=gi l (gi (db E n) b)+1∧0≤gi l b
 none:∀b,(b∈aI E n→(k:Int)≤gi (eR n (aI E n)) b)→b≠0→gi l b=-1
omit hE in
theorem ou (n:Nat):(gv n).length=n:=by simp[gv]
theorem sg.first:sg E n (gv n) 1:=by
 have hn:=hE.npos;refine ⟨ou n,by rw[pk hn];rfl,fun b hb h0 hlt=>?_,fun b _ h0=>by rw[pk hn];simp[h0]⟩;have h1:=hE.gok.ord;have:b=0:=h1.inj b 0 hb h1.zmem (by rw[h1.zero];have:=(h1.pos b).1 hb;omega);exact absurd this h0
theorem sg.step {l:List Int} {k:Nat} {b:Int} (hk:0<k) (hb:(aI E n)[k]?=some b) (h:sg E n l k):sg E n (zT (db E n) l b) (k+1):=by
 have ho:=hE.gok.ord;obtain ⟨hk2,e⟩:=List.getElem?_eq_some_iff.1 hb;have hbm:b∈aI E n:=e▸qx hk2;have hat:=mT hE hb;have hb0:b≠0:=fun e2=>by rw[e2,ho.zero] at hat;omega
 have hr:=da hE.toEOk hbm;have hnr:=hE.near_mem hbm hb0;have hnb:gi (db E n) b≠b:=fun e2=>by rw[e2] at hnr;omega
 have hlen:=h.len;have hst:∀x,gi (zT (db E n) l b) x=if x=b then gi l (gi (db E n) b)+1 else gi l x:=fun x=>xF hr.1 (by omega) _ x
 refine ⟨by rw[zU];exact h.len,by rw[hst,if_neg hb0.symm];exact h.zero,fun x hx h0 hlt=>?_,fun x hx h0=>?_⟩
 ·by_cases ex:x=b
  ·subst ex;rw[hst,if_pos rfl,hst,if_neg hnb];refine ⟨U,?_⟩
   by_cases hn0:gi (db E n) x=0
   ·rw[hn0,h.zero];omega
   have:=(h.row _ hnr.1 hn0 (by omega)).2;omega
  have hlt2:gi (eR n (aI E n)) x<k:=by
   have:gi (eR n (aI E n)) x≠gi (eR n (aI E n)) b:=fun e2=>ex (ho.inj x b hx hbm e2);omega
  have hnx:=hE.near_mem hx h0;have hne:gi (db E n) x≠b:=fun e2=>by rw[e2] at hnx;omega
  rw[hst,if_neg ex,hst,if_neg hne];exact h.row x hx h0 hlt2
 have ex:x≠b:=fun e2=>by subst e2;have:=hx hbm;omega
 rw[hst,if_neg ex];exact h.none x (fun hm=>by have:=hx hm;omega) h0
theorem sg.fold:∀(bs:List Int) (k:Nat) (l:List Int),0<k→(aI E n).drop k=bs→sg E n l k→sg E n (bs.foldl (zT (db E n)) l) (max k (aI E n).length)
 |[],k,l,hk,hd,h=>by
  have:(aI E n).length≤k:=by have:=congrArg List.length hd;simp at this;omega
  rw[Nat.max_eq_left this];exact h
 |b::bs,k,l,hk,hd,h=>by
  have hk2:k<(aI E n).length:=by have:=congrArg List.length hd;simp at this;omega
  have hb:(aI E n)[k]?=some b:=by have:=congrArg (fun z:List Int=>z[0]?) hd;simpa using this
  have:=sg.fold bs (k+1) _ (by omega) (by rw[←List.drop_drop,hd];rfl) (h.step hE hk hb);rw[List.foldl_cons]
  rwa [show max (k+1) (aI E n).length=max k (aI E n).length by omega] at this
theorem gx.lev:sg E n (cM E n) (aI E n).length:=by
 have:=sg.fold hE (aI E n).tail 1 _ (by omega) (by rw[List.drop_one]) (sg.first hE)
 rwa [Nat.max_eq_right hE.gok.pos] at this
theorem gx.at_lt {b:Int} (hb:b∈aI E n):gi (eR n (aI E n)) b<(aI E n).length:=by
 obtain ⟨k,hk,_,e⟩:=hE.gok.at_lt hb;rw[e];omega
theorem gx.lev_near {b:Int} (hb:b∈aI E n) (h0:b≠0):gi (cM E n) b=gi (cM E n) (gi (db E n) b)+1:=(hE.lev.row b hb h0 (hE.at_lt hb)).1
theorem gx.lev_nn {b:Int} (hb:b∈aI E n):0≤gi (cM E n) b:=by
 by_cases h0:b=0
 ·rw[h0,hE.lev.zero];omega
 exact (hE.lev.row b hb h0 (hE.at_lt hb)).2
theorem gx.lev_none {b:Int} (hb:b ∉ aI E n):gi (cM E n) b=-1:=hE.lev.none b (fun h=>absurd h hb) (fun e=>hb (by rw[e];exact hE.gok.ord.zmem))
theorem gx.lev_mem (b:Int):gi (cM E n) b≠-1↔b∈aI E n:=by
 refine ⟨fun h=>Classical.byContradiction fun hb=>h (hE.lev_none hb),fun hb h=>?_⟩;have:=hE.lev_nn hb;omega
theorem gx.lev_anc {b a:Int} (hb:b∈aI E n) (h:jQ (gi (db E n)) b a):a∈aI E n∧gi (cM E n) a≤gi (cM E n) b∧(gi (cM E n) b≤gi (cM E n) a→a=b):=by
 induction h with
 |refl b=>exact ⟨hb,Int.le_refl _,fun _=>rfl⟩
 |@up x a h1 h2 h3 ih=>
  obtain ⟨g1,g2,g3⟩:=ih (hE.near_mem hb h1).1;have:=hE.lev_near hb h1;exact ⟨g1,by omega,fun _=>by omega⟩
theorem gx.dom_iff {a b:Int} (hb:b∈aI E n):g9 E a b↔jQ (gi (db E n)) b a:=(hE.exact.anc b a hb).symm
end
def xG (N:List Int):Nat→Int→List Int
 |0,_=>[]
 |k+1,b=>b::if b=0 then[] else xG N k (gi N b)
def mU (E:Int→List Int) (n:Nat) (a b:Int):Bool:=decide (gi (cM E n) b≠-1)&&(xG (db E n) n b).contains a
section
variable {E:Int→List Int} {n:Nat} (hE:gx E n)
include hE
theorem qE {a:Int}:∀(k:Nat) (b:Int),b∈aI E n→gi (cM E n) b<k→(a∈xG (db E n) k b↔jQ (gi (db E n)) b a)
 |0,b,hb,hk=>by have:=hE.lev_nn hb;omega
 |k+1,b,hb,hk=>by
  unfold xG;rw[List.mem_cons]
  by_cases h0:b=0
  ·rw[if_pos h0]
   constructor
   ·rintro (h|h)
    ·subst h;exact .refl _
    cases h
   intro h;rcases h.cases' with e|⟨h1,_⟩
   ·exact .inl e
   exact absurd h0 h1
  rw[if_neg h0];have h1:=hE.near_mem hb h0;have h2:=hE.lev_near hb h0;rw[qE k _ h1.1 (by omega)]
  constructor
  ·rintro (h|h)
   ·subst h;exact .refl _
   exact .up h0 (hE.exact.has b hb) h
  intro h;rcases h.cases' with e|⟨_,_,h3⟩
  ·exact .inl e
  exact .inr h3
theorem CH {b:Int} (hb:b∈aI E n):gi (cM E n) b≤gi (eR n (aI E n)) b:=by
 obtain ⟨k,hk⟩:∃k:Nat,gi (eR n (aI E n)) b≤k:=⟨(gi (eR n (aI E n)) b).toNat,by omega⟩;induction k generalizing b with
 |zero=>
  have ho:=hE.gok.ord;have:b=0:=ho.inj b 0 hb ho.zmem (by rw[ho.zero];have:=(ho.pos b).1 hb;omega);rw[this,hE.lev.zero,ho.zero];omega
 |succ k ih=>
  by_cases h0:b=0
  ·rw[h0,hE.lev.zero,hE.gok.ord.zero];omega
  have h1:=hE.near_mem hb h0;have h2:=hE.lev_near hb h0;have:=ih h1.1 (by omega);omega
omit hE in
theorem nC:∀(l m:List Int),l.Nodup→(∀x∈l,x∈m)→l.length≤m.length
 |[],_,_,_=>qw _
 |x::l,m,h1,h2=>by
  rw[List.nodup_cons] at h1;have hx:=h2 x (.head _);have:=nC l (m.erase x) h1.2 fun y hy=>(List.mem_erase_of_ne (fun e=>h1.1 (by rw[←e];exact hy))).2 (h2 y (.tail _ hy));have hp:=List.length_pos_of_mem hx;rw[List.length_erase_of_mem hx] at this;rw[List.length_cons];omega
theorem gH:(aI E n).length≤n:=by
 have h1:=kG hE.toEOk;have h2:∀x∈aI E n,x∈ba n:=fun x hx=>dR.2 (da hE.toEOk hx);have:=nC _ _ h1 h2
 rwa [cA] at this
theorem gx.domB_iff (a b:Int):mU E n a b=true↔g9 E a b:=by
 unfold mU;rw[wc,decide_eq_true_iff,hE.lev_mem]
 constructor
 ·rintro ⟨hb,h⟩;have h1:=CH hE hb;have h2:=hE.at_lt hb;have h3:=gH hE;exact (hE.dom_iff hb).2 ((qE hE n b hb (by omega)).1 (by simpa using h))
 intro h;have hb:=(b9 hE.toEOk b).2 h.1;have h1:=CH hE hb;have h2:=hE.at_lt hb;have h3:=gH hE;exact ⟨hb,by simpa using (qE hE n b hb (by omega)).2 ((hE.dom_iff hb).1 h)⟩
end
def cS (t:fJ):List Int:=if t.kind=0 then[t.to0] else if t.kind=1 then (if t.to0=t.to1 then[t.to0] else[t.to0,t.to1]) else[]
theorem wv (t:fJ):(cS t).length≤2:=by unfold cS;split<;>(try split)<;>(try split)<;>simp
theorem zV (t:fJ):(cS t).Nodup:=by
 unfold cS;split
 ·simp
 split
 ·split<;>simp_all
 simp
def aj (f:ab) (b:Int):List Int:=if 0≤b then ((f.q[b.toNat]?).map fun c=>cS c.t).getD [] else[]
theorem lU {f:ab} {k:Nat} (h:k<f.q.length):aj f (k:Int)=cS f.q[k].t:=by
 unfold aj;rw[if_pos (by omega)];rw[show ((k:Int).toNat)=k from rfl,qt h];rfl
theorem lV {f:ab} {b:Int} (h0:0≤b) (h:b.toNat<f.q.length):aj f b=cS f.q[b.toNat].t:=by
 unfold aj;rw[if_pos h0,qt h];rfl
theorem fg {f:ab} {b:Int} (h:¬(0≤b∧b<f.q.length)):aj f b=[]:=by
 unfold aj;split
 ·rw[List.getElem?_eq_none (by omega)];rfl
 rfl
theorem tu (f:ab) (b:Int):(aj f b).length≤2:=by
 unfold aj;split
 ·cases f.q[b.toNat]? with
  |none=>simp
  |some c=>exact wv c.t
 simp
theorem jF (f:ab) (b:Int):(aj f b).Nodup:=by
 unfold aj;split
 ·cases f.q[b.toNat]? with
  |none=>simp
  |some c=>exact zV c.t
 simp
structure cK (f:ab):Prop where
 pos:0<f.q.length
 rng:∀b∈f.q,∀c∈cS b.t,0≤c∧c<f.q.length
theorem cK.grph {f:ab} (h:cK f):gx (aj f) f.q.length:=
 {npos:=h.pos
  rng:=fun b h0 h1 c hc=>by
   rw[lV h0 (by omega)] at hc;exact h.rng _ (qx (by omega)) c hc
  len:=tu f
  out:=fun _ hx=>fg hx }
theorem pm {E:Int→List Int} (hn:∀b,(E b).Nodup) (n:Nat) (b:Int):(bm E n b).Nodup∧(bm E n b).Pairwise (·<·):=by
 have key:(bm E n b).Pairwise (·<·):=by
  unfold bm;rw[List.flatMap,List.pairwise_flatten]
  constructor
  ·intro l hl;obtain ⟨i,_,rfl⟩:=List.mem_map.1 hl;have h1:=hn i;have h2:((E i).filter fun c=>decide (c=b)).length≤1:=by
    generalize E i=l at h1
    induction l with
    |nil=>simp
    |cons x l ih=>
     rw[List.nodup_cons] at h1;rw[List.filter_cons];split
     ·rename_i hx;have hx:x=b:=by simpa using hx
      have:l.filter (fun c=>decide (c=b))=[]:=List.filter_eq_nil_iff.2 fun y hy=>by
       intro e;have:y=b:=by simpa using e
       rw[←hx] at this;exact h1.1 (this▸hy)
      rw[this];simp
     exact ih h1.2
   match h3:((E i).filter fun c=>decide (c=b)) with
   |[]=>simp
   |[x]=>simp
   |x::y::r=>rw[h3] at h2;simp at h2
  rw[List.pairwise_map];unfold ba;rw[List.pairwise_map];refine List.Pairwise.imp ?_ List.pairwise_lt_range;intro i j hij x hx y hy;obtain ⟨_,_,rfl⟩:=List.mem_map.1 hx;obtain ⟨_,_,rfl⟩:=List.mem_map.1 hy;exact Int.ofNat_lt.2 hij
 exact ⟨key.imp fun h e=>by omega,key⟩
def kc (E:Int→List Int) (a shut b:Int):Prop:=a≠shut∧∃c,c∈E a∧kV E (fun x=>x≠shut) c b
theorem kc.step {E:Int→List Int} {a shut x y:Int} (h:(x=a∧a≠shut)∨kc E a shut x) (he:y∈E x) (hy:y≠shut):kc E a shut y:=by
 rcases h with ⟨rfl,h⟩|⟨h,c,hc,hw⟩
 ·exact ⟨h,y,he,.refl hy⟩
 exact ⟨h,c,hc,.step hw he hy⟩
theorem kc.closed {E:Int→List Int} {a shut:Int} {out:Int→Prop} (hc:∀x y,x≠shut→(x=a∨out x)→y∈E x→y≠shut→out y) {b:Int} (h:kc E a shut b):out b:=by
 obtain ⟨ha,c,hc1,hw⟩:=h;induction hw with
 |refl h1=>exact hc a c ha (.inl rfl) hc1 h1
 |step h1 h2 h3 ih=>exact hc _ _ h1.end_ (.inr ih) h2 h3
theorem Hx {E:Int→List Int} {shut b:Int}:((b=0∧shut≠0)∨(b≠0∧kc E 0 shut b))↔kV E (fun x=>x≠shut) 0 b:=by
 constructor
 ·rintro (⟨rfl,h⟩|⟨_,h,c,hc,hw⟩)
  ·exact .refl (fun e=>h e.symm)
  exact kV.trans (.step (.refl h) hc hw.start) hw
 intro h
 by_cases hb:b=0
 ·exact .inl ⟨hb,fun e=>h.start e.symm⟩
 refine .inr ⟨hb,h.start,?_⟩;rcases h.last with e|⟨c,hc,hw⟩
 ·exact absurd e hb
 exact ⟨c,hc,hw.mono fun _ h=>h.1⟩
theorem D8 {E:Int→List Int} {n:Nat} (hE:gx E n) {b:Int}:kV E (fun x=>x≠-1) 0 b↔oV E b:=by
 constructor
 ·exact fun h=>h.mono fun _ _=>trivial
 intro h;refine h.self.mono fun x hx e=>?_;have:=da hE.toEOk ((b9 hE.toEOk x).2 hx.2);omega
abbrev lk:=Int × Int
def ll (v:Int) (i:Int) (b:aF):List lk:=(b.p.filter fun p=>decide (p.dst=v)).map (fun _=>(i,-1))++(b.s.zipIdx.filter fun x=>decide (x.1.dst=v)).map fun x=>(i,(x.2:Int))
def aZ (f:ab) (v:Int):List lk:=f.q.zipIdx.flatMap fun b=>ll v (b.2:Int) b.1
def aE (f:ab) (v:Int):lk:=(aZ f v).head?.getD (-1,0)
def mV (f:ab):Prop:=∀v:Nat,v<f.v.length→(aZ f v).length≤1∧(aZ f v≠[]→f.z.length≤v)
def bI (f:ab) (m:lk) (b at_:Int):Prop:=m.1<0∨(m.1=b∧m.2<at_)∨(0≤m.1∧m.1≠b∧g9 (aj f) m.1 b)
def Hy (f:ab):Prop:=∀i (h:i<f.q.length),∀p∈f.q[i].p,p.w.Perm (bm (aj f) f.q.length i)
def Hz (f:ab):Prop:=∀i:Nat,i<f.q.length→oV (aj f) i
def eM (f:ab) (b:Int):Int:=((f.q[b.toNat]?).map fun c=>(c.s.length:Int)).getD 0
def xH (f:ab) (i:Nat) (b:aF):Prop:=
 (∀p∈b.p,∀q∈p.args.zip p.w,bI f (aE f q.1) q.2 (eM f q.2)) ∧
 (∀k (h:k<b.s.length),∀v∈b.s[k].args,bI f (aE f v) i k) ∧
 (b.t.kind=0∨bI f (aE f b.t.var) i b.s.length)
def MH (f:ab):Prop:=∀i (h:i<f.q.length),xH f i f.q[i]
def D9 (f:ab):Prop:=Hy f∧Hz f∧mV f∧MH f
end
section
open Go.Proofs.Tryz
open Go.Proofs
theorem ed:dp prog 23 3 1 1 [.i 0]:=⟨_,j7,j9,Xe,by decide,by decide,by kernel_rfl⟩
theorem tv:dp prog 23 3 2 1 [.i 0,.i 0]:=⟨_,j7,j9,Xe,by decide,by decide,by kernel_rfl⟩
variable {E:World}
set_option maxRecDepth 20000
theorem MI {t:fJ} (h:t.kind=0):cS t=[t.to0]:=by unfold cS;rw[if_pos h]
theorem MJ {t:fJ} (h:t.kind=1) (e:t.to0=t.to1):cS t=[t.to0]:=by unfold cS;rw[if_neg (by omega),if_pos h,if_pos e]
theorem MK {t:fJ} (h:t.kind=1) (e:¬t.to0=t.to1):cS t=[t.to0,t.to1]:=by unfold cS;rw[if_neg (by omega),if_pos h,if_neg e]
theorem ML {t:fJ} (h0:¬t.kind=0) (h:¬t.kind=1):cS t=[]:=by unfold cS;rw[if_neg h0,if_neg h]
theorem ww (t:fJ):aS prog E 200 [.agg (sy t)] (.fro 1 ((cS t).map b7)):=by
 refine zm func200 U (by decide) U<|Z<|zx (cs:=_) U U U<|X (kT U)<|Y<|za<|zd<|za<|Z<|ao jj U Y5 U U<|aD Yk U<|au U U<|ah U<|Y<|zh U (fun c0=>?_) (fun c0=>?_)
 ·refine zc<|ym U (by simpa using c0)<|Z<|ao jj U Zi U U<|X (yt (j:=0) Z8 j9 U U U (by decide) U)<|aD jg U<|zw (rows:=[[_]]) ed U U U U U<|X (oU U)<|Y<|zf<|yz (x:=.fro _ _) U ?_;rw[MI c0];rfl
 refine bZ<|ao jj U Y5 U U<|aD Yk U<|au U U<|aw U<|zo (s:=10) U (fun c1=>?_) (fun c1=>?_)
 ·refine M U U c1<|ao jj U Zi U U<|M U U c1<|X (yt (j:=0) Z8 j9 U U U (by decide) U)<|M U U c1<|aD jg U<|M U U c1<|ao jj U Zi U U<|M U U c1<|X (yt (j:=1) Z8 j9 U U U (by decide) U)<|M U U c1<|aD jg U<|M U U c1<|au U U<|aA U c1 U<|ah U<|Y<|zq U (fun c2=>?_) (fun c2=>?_)
  ·refine Z<|ao jj U Zi U U<|X (yt (j:=0) Z8 j9 U U U (by decide) U)<|aD jg U<|zw (rows:=[[_]]) ed U U U U U<|X (oU U)<|Y<|zf<|yz (x:=.fro _ _) U ?_;rw[MJ (by simpa using c1) (by simpa using c2)];rfl
  refine Z<|ao jj U Y5 U U<|aD Yk U<|au U U<|ah U<|Y<|ym U (by simpa using c1)<|Z<|ao jj U Zi U U<|X (yt (j:=0) Z8 j9 U U U (by decide) U)<|aD jg U<|ao jj U Zi U U<|X (yt (j:=1) Z8 j9 U U U (by decide) U)<|aD jg U<|zw (rows:=[[_],[_]]) tv U U U U U<|X (oU U)<|Y<|zf<|yz (x:=.fro _ _) U ?_;rw[MK (by simpa using c1) (by simpa using c2)];rfl
 refine H U U c1<|H U U c1<|H U U c1<|H U U c1<|H U U c1<|H U U c1<|H U U c1<|ay U c1 U<|ah U<|Y<|yl U U<|Z<|ao jj U Y5 U U<|aD Yk U<|au U U<|ah U<|Y<|yl U (by simpa using c1)<|zc<|Z<|X (kT U)<|Y<|zf ?_
 repeat (first|refine ad ?_|refine aa ?_)
 refine yv (aR.slot (t:=2) U (Mn 1))<|yz (x:=.fro _ _) U ?_;rw[ML (by simpa using c0) (by simpa using c1)];rfl
def pn (rows:List (List Int)) (c x:Int):List (List Int):=rows.set c.toNat ((rows[c.toNat]?).getD []++[x])
def gO (rows:List (List Int)) (cs:List Int) (x:Int):List (List Int):=cs.foldl (fun r c=>pn r c x) rows
theorem tw (cs:List Int) (x:Int):∀rows,(gO rows cs x).length=rows.length:=by
 induction cs with
 |nil=>intro rows;rfl
 |cons c cs ih=>intro rows;show (gO (pn rows c x) cs x).length=_;rw[ih];unfold pn;simp
theorem zW (rows:List (List Int)) (cs:List Int) (c x:Int):gO rows (cs++[c]) x=pn (gO rows cs x) c x:=by unfold gO;rw[List.foldl_append];rfl
theorem Fr {rows:List (List Int)} {c x:Int} (h0:0≤c) (b:Nat):(pn rows c x)[b]?=(rows[b]?).map (·++if c=(b:Int) then[x] else[]):=by
 unfold pn;rw[List.getElem?_set]
 by_cases e:c.toNat=b
 ·have:c=(b:Int):=by omega
  rw[if_pos e,if_pos this,e]
  by_cases hb:b<rows.length
  ·rw[if_pos hb,qt hb];rfl
  rw[if_neg hb,List.getElem?_eq_none (by omega)];rfl
 have:¬c=(b:Int):=by omega
 rw[if_neg e,if_neg this];simp
theorem ov (x:Int) (b:Nat):∀(cs:List Int) (rows:List (List Int)),(∀c∈cs,0≤c)→(gO rows cs x)[b]?=(rows[b]?).map (·++(cs.filter fun c=>decide (c=(b:Int))).map fun _=>x)
 |[],rows,_=>by simp[gO]
 |c::cs,rows,h=>by
  show (gO (pn rows c x) cs x)[b]?=_;rw[ov x b cs _ (fun c hc=>h c (List.mem_cons_of_mem _ hc)),Fr (h c (List.mem_cons_self ..))];cases rows[b]? with
  |none=>rfl
  |some r=>
   by_cases e:c=(b:Int)
   ·simp[e]
   simp[e]
def dJ (f:ab) (k:Nat):List (List Int):=(List.range f.q.length).map fun (b:Nat)=>bm (aj f) k (b:Int)
theorem ig (f:ab) (k:Nat):(dJ f k).length=f.q.length:=by unfold dJ;simp
theorem zX (f:ab):List.replicate f.q.length []=dJ f 0:=by
 apply List.ext_getElem
 ·rw[ig];simp
 intro i h1 h2;unfold dJ bm ba;simp
theorem mW (E:Int→List Int) (k:Nat) (b:Int):bm E (k+1) b=bm E k b++((E k).filter fun c=>decide (c=b)).map fun _=>(k:Int):=by
 unfold bm;rw[rA,List.flatMap_append];simp
theorem zY {f:ab} {k:Nat} (h0:∀c∈aj f k,0≤c):gO (dJ f k) (aj f k) k=dJ f (k+1):=by
 apply List.ext_getElem?;intro b;rw[ov _ _ _ _ h0]
 by_cases hb:b<f.q.length
 ·unfold dJ;rw[w3,w3,List.getElem?_range hb];simp only[Option.map_some];rw[mW]
 rw[List.getElem?_eq_none (by rw[ig];omega),List.getElem?_eq_none (by rw[ig];omega)];rfl
theorem HA {rows:List (List Int)} {c x:Int} (h:c.toNat<rows.length):rows.set c.toNat (rows[c.toNat]++[x])=pn rows c x:=by
 unfold pn;rw[qt h];rfl
theorem ke (f:ab) (b:Int):∀k,(bm (aj f) k b).length≤2*k
 |0=>by simp[bm,ba]
 |k+1=>by
  have h1:=ke f b k;have h2:=tu f k;have h3:=List.length_filter_le (fun c=>decide (c=b)) (aj f k);rw[mW,qz,w2];omega
theorem Kv {f:ab} {k b:Nat} {cs:List Int} {x:Int} (h0:∀c∈cs,0≤c) (hb:b<(gO (dJ f k) cs x).length):(gO (dJ f k) cs x)[b].length≤2*k+cs.length:=by
 have hb2:b<f.q.length:=by rwa [tw,ig] at hb
 have h:=ov x b cs (dJ f k) h0;have hr:(dJ f k)[b]?=some (bm (aj f) k (b:Int)):=by unfold dJ;rw[w3,List.getElem?_range hb2];rfl
 rw[qt hb,hr] at h;have h:(gO (dJ f k) cs x)[b]=bm (aj f) k (b:Int)++(cs.filter fun c=>decide (c=(b:Int))).map fun _=>x:=by simpa using h
 have h2:=ke f b k;have h3:=List.length_filter_le (fun c=>decide (c=(b:Int))) cs;rw[h,qz,w2];omega
theorem tx (f:ab) (hE:cK f) (hn:f.q.length≤100000):aS prog E 163 [.agg (bH f)] (sd eI (dJ f f.q.length)):=by
 refine zm func163 U (by decide) U<|Z<|zx (cs:=_) U U U<|X (kT U)<|Y<|Z<|ao jf U Zd U U<|aK Zf U<|am jr U<|qd (m:=f.q.length) Zg type23 U U U U U (by simp) (by simp) (by show (24:Int)*_≤_;omega) (by omega) eI 3<|fun b11=>X (q9 (v:=fe _ _) U)<|Y<|za<|Z<|ao jf U Zd U U<|aK Zf U<|am jr U<|C U<|Y<|zd<|zu (γ:=Nat) [3,13,14] (fun k=>[(15,.i k)]) (fun k=>[(0,dN eI 23 3 b11 (dJ f k))]) (fun k=>k≤f.q.length) (fun k=>f.q.length - k) 0 aN ⟨_,(.refl _),by rw[zX]⟩ (qw _) ?_;rintro k hk;refine Z<|aq U U<|Y<|za<|zh U (fun ck=>?_) (fun ck=>?_)
 ·have hk2:k<f.q.length:=by simp at ck;omega
  have hEk:aj f k=cS f.q[k].t:=lU hk2;have hlen:=wv f.q[k].t;have hrng:=hE.rng _ (qx hk2);refine zc<|za<|zd<|Z<|C U<|X (bD k jr Z1 U U U (qt hk2))<|ae Ye Z1 U U<|zp (cs:=[.e,.n,.n,.i 0,.i 0,.i 0,.i 0]) Zh U U<|fun i5=>ap U<|zi Z1 U U U U U U .head U<|Y<|Z<|X (ze ji U Zp (by decide) U U)<|X (qh (l:=[_,_,_,_]) Xl Zp U ⟨_,.head⟩ U U)<|zb (ww _) U<|am j7 U<|C U<|Y<|zd<|zu (γ:=Nat) [3,4,13,14,15,22,23] (fun j=>[(24,.i j)]) (fun j=>[(0,dN eI 23 3 b11 (gO (dJ f k) ((cS f.q[k].t).take j) k))]) (fun j=>j≤(cS f.q[k].t).length) (fun j=>(cS f.q[k].t).length - j) 0 aN ⟨_,(.drop (.refl _)),U⟩ (qw _) ?_;rintro j hj;refine Z<|aq U U<|Y<|za<|zh U (fun cj=>?_) (fun cj=>?_)
  ·have hj2:j<(cS f.q[k].t).length:=by simp at cj;omega
   obtain ⟨c,hc⟩:∃c,(cS f.q[k].t)[j]=c:=⟨_,rfl⟩;have hr:=hrng c (hc▸qx hj2);obtain ⟨rows,hrows⟩:∃rows,gO (dJ f k) ((cS f.q[k].t).take j) k=rows:=⟨_,rfl⟩;have hrl:rows.length=f.q.length:=by rw[←hrows,tw,ig]
   have hcn:c.toNat<rows.length:=by omega
   have hrow:rows[c.toNat].length≤200002:=by
    have:=Kv (f:=f) (k:=k) (b:=c.toNat) (cs:=(cS f.q[k].t).take j) (x:=k) (fun c hc=>(hrng c (List.mem_of_mem_take hc)).1) (by rw[hrows];exact hcn);simp only[hrows,w9] at this;omega
   rw[hrows];refine zc<|za<|zd<|Z<|X (bD j j7 j9 U U U (by rw[qt hj2,hc])) ?_;refine aD jg U<|ap U<|Y<|bZ<|X (yn (v:=fe _ _) U)<|C U<|X (yn (v:=fe _ _) U)<|C U<|X (qn (j:=c.toNat) Zg jh U U (by omega) (by omega))<|qg (j:=c.toNat) (r:=rows[c.toNat]) jy U (qt hcn) (fun _=>.head)<|fun i33=>C U<|zw (rows:=[[_]]) ed U U U U U<|yb (k:=1) j7 Y6 U U U U U (fun _=>.head) (by rw[eI.av_len];rfl) (by decide) U (by show (_+1)*8≤_;omega) (by show _+1≤_;omega)<|fun i36=>X (qn (j:=c.toNat) Zg jh U U (by omega) (by omega))<|qo (j:=c.toNat) (r:=rows[c.toNat]++[(k:Int)]) jh U U (by omega) .head .head U (eI.av_push _ _) (by simp)<|Y<|bQ U U ?_;exact ⟨j+1,lI,aN,⟨_,(.refl _),by rw[qu hj2,zW,hrows,hc,HA hcn]⟩,hj2,by omega⟩
  have hjn:j=(cS f.q[k].t).length:=by simp at cj;omega
  refine zt<|bQ U U ?_;exact ⟨k+1,eX,aN,⟨_,(.refl _),by rw[hjn,qy,←hEk,zY (fun c hc=>(hrng c (hEk▸hc)).1)]⟩,hk2,by omega⟩
 have hkn:k=f.q.length:=by simp at ck;omega
 subst hkn;refine yd (aR.nestKnow (s:=3) U .head (ig f _))<|zt<|Z<|bj U<|X (oU U)<|Y<|zf<|yz (x:=.fro _ _) U ?_
 rfl
end
section
open Go.Proofs.Tryz
open Go.Sort (Holds putRow putCells onCells)
theorem zZ {zs ys:List Int} {junk:List Value} (hl:ys.length=zs.length):putCells (Value.int .i64) 0 ys.toArray (zs.map (Value.int .i64)++junk).toArray=(ys.map (Value.int .i64)++junk).toArray:=by
 unfold putCells;apply Array.ext_getElem?;intro k;simp only[Array.getElem?_mapIdx,List.getElem?_toArray,qw,true_and,Nat.zero_add,Nat.sub_zero,List.size_toArray]
 by_cases hk:k<ys.length
 ·rw[List.getElem?_append_left (by rw[w2];omega),List.getElem?_append_left (by rw[w2];omega),w3,w3,qt hk,qt (by omega:k<zs.length)];simp[hk]
 rw[List.getElem?_append_right (by rw[w2];omega),List.getElem?_append_right (by rw[w2];omega),w2,w2,hl];rw[hl] at hk;simp only[hk,if_false];cases junk[k - zs.length]?<;>rfl
theorem SL.turned {I:bT} {O:List (Nat × Obj)} {E w:World} {b n:Nat} {zs ys:List Int} {junk:List Value} {T:TypeId} {os:Array Obj} (hl:ys.length=zs.length) (h:SL I ((b,.cells (zs.map (Value.int .i64)++junk).toArray T (0,0))::O) E w) :
  SL I ((b,.cells (ys.map (Value.int .i64)++junk).toArray T (0,0))::O) E (Go.Sort.grow (putRow (Value.int .i64) (Go.Sort.ahead w n) b 0 ys.toArray) os):=by
 have hb:=h.j _ (.head _);simp only at hb;have hlt:=eE hb;have h1:SL I ((b,.cells (ys.map (Value.int .i64)++junk).toArray T (0,0))::O) E (putRow (Value.int .i64) (Go.Sort.ahead w n) b 0 ys.toArray):=by
  refine h.turn U U U ?_ fun k hk=>?_
  ·show (w.heap.modify b (onCells (putCells (Value.int .i64) 0 ys.toArray)))[b]?=_;rw[Array.getElem?_modify,if_pos rfl,hb];simp only[Option.map_some,onCells,zZ hl]
  show (w.heap.modify b (onCells (putCells (Value.int .i64) 0 ys.toArray)))[k]?=_;rw[Array.getElem?_modify,if_neg (fun e=>hk e.symm)]
 exact h1.more rfl rfl rfl fun k hk=>Go.Sort.heap_grow_old _ _ hk
theorem aX.turned {E:World} {P:Program} {f:FuncId} {fn:Func} {c:Code} {g:List Int→List Int} {B:Nat} (hf:P.funcs[f]?=some fn) (hb:fn.body=some c) (hn:fn.name≠"runtime.NumGoroutine") (hg:∀l,(g l).length=l.length)
  (hC:∀(blk cap:Nat) (zs:List Int) (w:World),Holds (Value.int .i64) w blk 0 zs.toArray→blk<w.heap.size→zs.length<B →
   Calls P f #[.slice (some ⟨blk,0,none⟩) zs.length cap] w fun e w'=>e=.returned (.tuple #[])∧∃n os,w'=Go.Sort.grow (putRow (Value.int .i64) (Go.Sort.ahead w n) blk 0 (g zs).toArray) os)
  (hN:∀(cap:Nat) (w:World),Calls P f #[.slice none 0 cap] w fun e w'=>e=.returned (.tuple #[])∧w'=w)
  {l:List Int} {i n:Nat} {T:TypeId} (hl:l.length=n) (hB:n<B):aX P E f [.j i n] [(i,.u 1 T (cI l))] fun r O=>r=.tup []∧O=[(i,.u 1 T (cI (g l)))]:=fun I F w vs h1 h2=>by
 obtain ⟨v,us,rfl,⟨b,c,e1,rfl⟩,h3⟩:=h1;have h3:us=[]:=h3;subst h3;obtain ⟨ht,L,⟨A,B',e2,⟨b',c',n',ws,e3,h4,h5,h6⟩,h7⟩,hS⟩:=h2;have h7:B'=[]:=h7;subst h7;rw[w8] at e2;subst e2;simp only at e3;rw[e1] at e3;simp only[Option.some.injEq,Prod.mk.injEq] at e3;obtain ⟨rfl,rfl⟩:=e3;have h4:=LS h4;subst h4;refine Fn.ofCalls hf hb hn ?_;obtain ⟨g1,g2,g3⟩:=h6;rw[w2,Nat.mul_one] at g1;have hnn:n'=n:=by omega
 subst hnn;rcases g3 with ⟨ea,rfl,rfl⟩|⟨b2,junk,ea,rfl,hj⟩
 ·have h0:n'=0:=by omega
  subst h0;have hl0:l=[]:=w6 hl;subst hl0;have hg0:g []=[]:=w6 (hg []);rw[ea];refine (hN 0 w).mono fun e w' ⟨he,hw⟩=>⟨_,he,I,.tup [],_,.refl _,⟨[],U,U⟩,?_,U,U⟩;subst hw;rw[hg0];exact ⟨ht,[],⟨[],[],rfl,⟨b,0,0,[],e1,rfl,by simp,by rw[ea];exact fI.nil 1 T⟩,rfl⟩,hS⟩
 rw[ea];have hS2:SL I.k ((b2,.cells (l.map (Value.int .i64)++junk).toArray T (0,0))::F) E w:=hS;have hH:Holds (Value.int .i64) w b2 0 l.toArray:=fun j hjl=>by
  have hj2:j<l.length:=by simpa using hjl
  have hbk:=hS2.j _ (.head _);simp only at hbk;refine ⟨?_,?_⟩
  ·rw[hS2.cell_own,Nat.zero_add,List.getElem?_toArray,List.getElem?_append_left (by rw[w2];exact hj2),w3,qt hj2];simp[hj2]
  simp[World.frozen?,hbk]
 have:=hC b2 c l w hH (eE (hS2.j _ (.head _))) (by omega);rw[hl] at this;refine this.mono fun e w' ⟨he,k,os,hw⟩=>⟨_,he,I,.tup [],_,.refl _,⟨[],U,U⟩,?_,U,U⟩;subst hw;refine ⟨ht,[(b2,.cells ((g l).map (Value.int .i64)++junk).toArray T (0,0))],⟨_,[],by simp,⟨b,c,n',(g l).map (Value.int .i64),e1,Fa I (g l),fun u hu=>by obtain ⟨x,_,rfl⟩:=List.mem_map.1 hu;rfl,by rw[w2,hg,hl,Nat.mul_one],g2,.inr ⟨b2,junk,ea,rfl,by rw[qz,w2,hg] ;rw[qz,w2] at hj;exact hj⟩⟩,rfl⟩,?_⟩;exact SL.turned (hg l) hS2
end
section
open Go.Proofs.Tryz
variable {α:Type}
theorem gh.inv {c:fu α} {e:TypeId} {r:List α} {rs:List (List α)} {hs:List Value} {L:List (Nat × Obj)} (h:gh c e (r::rs) hs L) :
  ∃a n cap hs' A B,hs=.slice a n cap::hs'∧L=A++B∧fI c.k e a n cap (c.vs r) A∧gh c e rs hs' B:=by
 cases h with
 |cons h1 h2=>exact ⟨_,_,_,_,_,_,rfl,rfl,h1,h2⟩
def Ea (c:fu α) (T e:TypeId) (b:Nat) (rows:List (List α)) (k:Nat):bC:=.heap fun L=>∃(hs:List Value) (B:List (Nat × Obj)),L=(b,.cells hs.toArray T (0,0))::B∧hs.length=rows.length∧gh c e (rows.drop k) (hs.drop k) B
section
variable {E:World} {P:Program} {ops:Array Oper} {K:aU→OL→Prop} {env:aU} {O O' O'':OL} {rest:List Oper} {n:Nat}
variable {d ty:Nat} {pos:String} {af:Array Edge} {x y z:Operand} {t u e T:TypeId}
theorem aR.nestTail {c:fu α} {b m:Nat} {rows:List (List α)} (hO:gc O m (dN c T e b rows) (Ea c T e b rows 0) O'):aR E env O env O':=fun I F ρ w h1 h2=>by
 obtain ⟨htop,L,hL,hS⟩:=h2;obtain ⟨A,B,hp,⟨hs,B0,rfl,hN⟩,hback⟩:=hO.rep hL;obtain ⟨L',h5,h6⟩:=hback (G.le.refl I) (A':=(b,.cells hs.toArray T (0,0))::B0) ⟨hs,B0,rfl,hN.len,hN⟩;exact ⟨I,.refl _,h1,htop,L',h5,hS.perm ((h6.trans hp.symm).append_right F)⟩
theorem ax.nestShift {c:fu α} {b k m:Nat} {rows:List (List α)} {r:List α} (ha:∀w,(isAgg t).run P w=.ok false w) (hx:bd env x=Kh b k) (hr:rows[k]?=some r)
  (hO:gc O m (Ea c T e b rows k) (Ea c T e b rows (k+1)) O') (kk:∀i,ax P E ops K rest (bB env d (.j i r.length)) ((i,.u c.k e (c.av r))::O')) :
  ax P E ops K (Oper.mk (some d) (.load t x) ty pos af none::rest) env O:=fun I F ρ w h1 h2=>by
 obtain ⟨i,hi⟩:=h2.name;obtain ⟨htop,L,hL,hS⟩:=h2;have hx:=iZ h1 hx;obtain ⟨A,B,hp,⟨hs,B0,rfl,hl,hN⟩,hback⟩:=hO.rep hL;obtain ⟨hlt,hrk⟩:=List.getElem?_eq_some_iff.1 hr;rw[List.drop_eq_getElem_cons hlt,hrk] at hN;obtain ⟨a,n,cap,hs',A1,B1,g0,rfl,g2,g3⟩:=hN.inv;have hlt2:k<hs.length:=by omega
 have g0':=g0;rw[List.drop_eq_getElem_cons hlt2] at g0';simp only[List.cons.injEq] at g0';obtain ⟨g1,rfl⟩:=g0';have g1:hs[k]?=some (.slice a n cap):=by rw[qt hlt2,g1]
 obtain ⟨b1,rfl⟩:=g2.adr;have hn:n=r.length:=by have:=g2.1;rw[c.vs_len] at this;exact (Nat.eq_of_mul_eq_mul_right c.pos this).symm
 subst hn;obtain ⟨J,e1,hle,e2,htop'⟩:=hi (b1,cap);have hS2:SL I.k ((b,.cells hs.toArray T (0,0))::(A1++B1++(B++F))) E w:=hS.perm (by
  have:=hp.append_right F
  simpa using this.symm)
 obtain ⟨L',h5,h6⟩:=hback hle (A':=(b,.cells hs.toArray T (0,0))::B1) ⟨hs,B1,rfl,hl,g3⟩;refine bL.load1 (I:=I.k) (O:=(b,.cells hs.toArray T (0,0))::(A1++B1++(B++F))) ha hS2 hx (.inr ⟨_,_,_,.head _,by rw[List.getElem?_toArray];exact g1⟩) ?_;refine bL.mono (fun _ _=>dB.up hle) _ _ _ (kk i J F _ _ ((h1.mono hle).upd d ⟨b1,cap,e2,U⟩) ⟨htop',A1++L',⟨A1,L',U,⟨b1,cap,_,c.vs r,e2,by rw[c.av_eq];exact fj J _,c.vs_one r,g2⟩,h5⟩,?_⟩);rw[e1];refine hS2.perm ?_;have h7:(A1++L'++F).Perm (A1++((b,Obj.cells hs.toArray T (0,0))::(B1++B))++F):=(h6.append_left A1).append_right F;refine h7.trans ?_;simp only[qv,List.cons_append];exact List.perm_middle
end
end
section
open Go.Proofs.Tryz
open Go.Proofs
theorem LY:eS prog 258 #[(0,1),(1,1)] [.int .i64 0,.int .i64 0]:=⟨_,_,X6,zeroValue258,fun w=>by kernel_rfl,rfl⟩
theorem Eb:dp prog 259 258 1 2 [.int .i64 0,.int .i64 0]:=⟨_,X2,sizeOf258,zeroValue258,by decide,by decide,by kernel_rfl⟩
variable {E:World}
set_option maxRecDepth 20000
def NN (r:List (Int × Nat)):List AV:=(r.reverse.map fun q=>[AV.i q.1,AV.i (q.2:Int)]).flatten
theorem mX (b:Int) (k:Nat) (r:List (Int × Nat)):NN ((b,k)::r)=NN r++[AV.i b,AV.i (k:Int)]:=by unfold NN;simp
theorem xI (r:List (Int × Nat)):(NN r).length=r.length*2:=by
 induction r with
 |nil=>rfl
 |cons q r ih=>obtain ⟨b,k⟩:=q;rw[mX,qz,ih];simp only[List.length_cons,List.length_nil];omega
theorem HB {f:ab} {n k:Nat} (hE:EOk (aj f) n):(fZ (aj f) n k).2.1.length+(fZ (aj f) n k).2.2.length≤n:=by
 have h:=gk hE k;have h2:=nC _ (ba n) h.nodup fun x hx=>dR.2 (h.rng x hx);rw[cA,qz,w2] at h2;exact h2
theorem CI (f:ab) (hE:cK f) (hn:f.q.length≤100000) (hrev:∀(l:List Int) (i:Nat) (T:TypeId),l.length≤200000→aX prog E 201 [.j i l.length] [(i,.u 1 T (cI l))] fun r O=>r=.tup []∧O=[(i,.u 1 T (cI l.reverse))]) :
  aS prog E 162 [.agg (bH f)] (.fro 1 ((aI (aj f) f.q.length).map b7)):=by
 have hG:=hE.grph;have hpos:=hG.npos
 refine zm func162 U (by decide) U<|Z<|zx (cs:=_) U U U<|X (kT U)<|Y<|Z<|ao jf U Zd U U<|aK Zf U<|am jr U<|qk (m:=f.q.length) ju Yr U U U U U (by simp) (by simp) (by show (1:Int)*_≤_;omega) (by omega)<|fun i12=>X (eO U)<|Y<|Z<|bX U<|X (y7 (j:=0) ju Zc U U U ⟨_,.head⟩ (by first|rfl|(simp[aH,aP];done)|(simp[aH,aP];omega)) hG.npos)<|yy (j:=0) Zc U U .head (by first|omega|(simp;omega))<|Y<|Z<|X (kT U)<|Y<|Z<|X (y5 (cps:=[(0,[_]),(1,[_])]) (rs:=[_,_]) LY U U U)<|ax.buildSliceO (cps:=[(0,[_,_])]) (rs:=[_,_]) Eb U U U U U<|fun i16=>X (eO U)<|Y<|gN (t:=4) (k:=1) (T:=3) U<|fun i4=>gd .t1<|za<|zd<|zu (γ:=Nat × Nat × Nat) [1,3] (fun g=>[(4,.j g.2.1 (fZ (aj f) f.q.length g.1).2.1.length),(5,.j g.2.2 (fZ (aj f) f.q.length g.1).2.2.length)]) (fun g=>[(g.2.2,.u 2 258 (NN (fZ (aj f) f.q.length g.1).2.2)),(g.2.1,.u 1 3 (cI (fZ (aj f) f.q.length g.1).2.1)),(i12,.u 1 4 (cB (fZ (aj f) f.q.length g.1).1))]) (fun g=>g.1≤4*f.q.length∧(fZ (aj f) f.q.length g.1).1.length=f.q.length) (fun g=>pl (fZ (aj f) f.q.length g.1)) (0,i4,i16) cV aJ (⟨qw _,by simp[fZ,tm]⟩) ?_
 rintro ⟨k,io,il⟩ ⟨hk,hsl⟩;try dsimp only at *
 have hI:=gk hG.toEOk k;have hlen:=HB (k:=k) hG.toEOk;have hlt:=tn hG.toEOk k;have hstep:fZ (aj f) f.q.length (k+1)=wu (aj f) (fZ (aj f) f.q.length k):=rfl;rcases hx:fZ (aj f) f.q.length k with ⟨seen,out,st⟩
 rw[hx] at hI hlen hlt hstep hsl;dsimp only at hlen hlt hsl;cases st with
 |nil=>
 ·refine za<|Z<|bX U<|X (qm X2 U)<|bg U U<|Y<|yl U (by simp) ?_;have hfin:=Fp (E:=aj f) (n:=f.q.length) (k:=k) (by rw[hx]) hk;refine zt<|Z<|bX U<|zy U (zk (.r (.l (.r (.rest _))))) (hrev out io 3 (by omega)) ?_;rintro r82 O82 ⟨rfl,rfl⟩;refine Y<|yd (aR.knowI (t:=4) U .head (by simp))<|Z<|bj U<|X (oU U)<|Y<|zf<|yz (x:=.fro _ _) U ?_;unfold aI;rw[hfin,hx];rfl
  |cons q r=>
 obtain ⟨b,j⟩:=q;have hbr:=hI.rng b (by simp);have hbl:b.toNat<f.q.length:=by omega
 have hEb:aj f b=cS f.q[b.toNat].t:=lV hbr.1 hbl;have hjl:=(hI.part (b,j) (by simp)).1;dsimp only at hjl;have hmn:pl (fZ (aj f) f.q.length (k+1))<pl (fZ (aj f) f.q.length k):=by rw[hstep,hx];exact vx.less hG.toEOk hI (by simp)
 have hk2:k+1≤4*f.q.length:=by simp at hlt;omega
 have hsn:(fZ (aj f) f.q.length (k+1)).1.length=f.q.length:=(gk hG.toEOk (k+1)).len;rw[oo] at hstep;rw[hx] at hmn;rw[mX];simp only[List.length_cons] at hlen ⊢
 refine za<|Z<|bX U<|X (qm X2 U)<|bg U U<|Y<|ym U (by simp)<|zc<|zd<|Z<|bX U<|bX U<|X (qm X2 U)<|X (Gv.sub U U (by unfold mB;show _∧((r.length+1:Nat):Int) - 1≤_;omega))<|X (Gv.idxOL (j:=r.length) X2 sizeOf258 U U (by show ((r.length+1:Nat):Int) - 1=_;omega) ⟨_,.head⟩ (by simp) (by show r.length<r.length+1;omega) (show r.length*2=(NN r).length by rw[xI]))<|X (xw U)<|Y<|za<|zn (fun j=>false) (by kernel_rfl) U (zk (.r (.rest _)))<|D 0 U (dk jf U Zd U U)<|D 1 U (gJ Zf U)<|D 2 U (dZ U)<|D 3 U (zr U)<|D 4 U (ze X6 U j9 (by decide) U U)<|D 5 U (Gv.loadL (c:=.int _ _) (j:=0) jg U U ⟨_,.head⟩ U)<|D 6 U (bD b.toNat jr Z1 U U (by omega) (qt hbl))<|D 7 U (dk ji U Zp U U)<|D 8 U (yj Xl Zp U U)<|bp 9 U<|zb (ww _) U<|Y<|D 10 U (oU U)<|dS<|za<|Z<|bf U<|aC U<|X (ze X6 U j9 (by decide) U U)<|X (Gv.loadL (c:=.int _ _) (j:=1) jg U U ⟨_,.head⟩ U)<|bj U<|am j7 U ?_
 refine au U U<|Y<|zq U (fun ce=>?_) (fun ce=>?_)
 ·have hje:j=(aj f b).length:=by rw[hEb];have h0:(j:Int)=((cS f.q[b.toNat].t).length:Int):=(by simpa using ce);omega
  rw[if_pos hje] at hstep;refine Z<|bX U<|bf U<|aC U<|X (ze X6 U j9 (by decide) U U)<|X (Gv.loadL (c:=.int _ _) (j:=0) jg U U ⟨_,.head⟩ U)<|zw (rows:=[[_]]) ed U U U U U<|yb (k:=1) j7 Y6 U U U U U (fun _=>.t1) (by rw[aH];omega) (by decide) U (by show (out.length+1)*8≤_;omega) (by show out.length+1≤_;omega)<|fun i48=>X (eO U)<|Y<|Z<|bX U<|bX U<|X (qm X2 U)<|X (Gv.sub U U (by unfold mB;show _∧((r.length+1:Nat):Int) - 1≤_;omega))<|ax.cutLast (j:=r.length) X2 sizeOf258 U U (by show ((r.length+1:Nat):Int) - 1=_;omega) .head (by decide) (by rw[xI])<|X (eO U)<|Y<|zt ?_;exact ⟨(k+1,i48,il),cV,⟨(by rw[hstep,qz];rfl),(by rw[hstep];rfl),trivial⟩,⟨_,(.refl _),by rw[hstep];dsimp only;rw[←lO];rfl⟩,⟨hk2,hsn⟩,by exact hmn⟩
 have hje:¬j=(aj f b).length:=by rw[hEb];have h0:¬(j:Int)=((cS f.q[b.toNat].t).length:Int):=(by simpa using ce);omega
 have hj2:j<(cS f.q[b.toNat].t).length:=by rw[←hEb];omega
 rw[if_neg hje] at hstep;obtain ⟨c,hc⟩:∃c,ge (aj f b) j=c:=⟨_,rfl⟩;have hcj:(cS f.q[b.toNat].t)[j]?=some c:=by rw[←hEb];unfold ge at hc;rw[←hc,hEb,qt hj2];rfl
 have hcr:=hG.rng b hbr.1 hbr.2 c (by rw[hEb];exact w5 hcj);rw[hc] at hstep;have hgs:seen[c.toNat]?=some (gb seen c):=by unfold gb;rw[qt (by omega)];rfl
 have hl2:=hG.len b;rw[hEb] at hl2;refine zc<|Z<|bj U<|bf U<|aC U<|X (ze X6 U j9 (by decide) U U)<|X (Gv.loadL (c:=.int _ _) (j:=1) jg U U ⟨_,.head⟩ U)<|X (bD j j7 j9 U U U hcj)<|aD jg U<|ap U<|Y<|Z<|bf U<|aC U<|X (ze X6 U j9 (by decide) U U)<|X (Gv.loadL (c:=.int _ _) (j:=1) jg U U ⟨_,.head⟩ U)<|X (ky U U)<|aC U<|X (ze X6 U j9 (by decide) U U)<|ax.storeL (j:=1) (l:=[_]) (new:=[_,_]) j9 U U U U U U U .head U U U<|Y<|Z<|bX U<|C U<|X (y7 (j:=c.toNat) ju Zc U U (by omega) ⟨_,.t2⟩ (by first|rfl|(simp[aH,aP];done)|(simp[aH,aP];omega)) (by omega))<|X (Gv.loadB (j:=c.toNat) Yn U ⟨_,.t2⟩ hgs)<|aL U<|Y<|zq U (fun cs=>?_) (fun cs=>?_)
 ·rw[if_neg (by simpa using cs)] at hstep;refine Z<|bX U<|C U<|X (y7 (j:=c.toNat) ju Zc U U (by omega) ⟨_,.t2⟩ (by first|rfl|(simp[aH,aP];done)|(simp[aH,aP];omega)) (by omega))<|yy (j:=c.toNat) Zc U U .t2 (by first|omega|(simp;omega))<|Y<|bZ<|bX U<|C U<|X (y5 (cps:=[(0,[_]),(1,[_])]) (rs:=[_,_]) LY U U U)<|zw (rows:=[[_,_]]) Eb U U U U U<|yb (k:=2) X2 type258 U U U U U (fun _=>.head) (by rw[qz,xI];show r.length*2+2=(r.length+1)*2;omega) (by decide) U (by show (r.length+1+1)*16≤_;omega) (by show r.length+1+1≤_;omega)<|fun i80=>X (eO U)<|Y ?_;exact ⟨(k+1,io,i80),cV,⟨(by rw[hstep];rfl),(by rw[hstep];rfl),trivial⟩,⟨_,(.refl _),by rw[hstep,mX,mX];rfl⟩,⟨hk2,hsn⟩,by exact hmn⟩
 rw[if_pos (by simpa using cs)] at hstep;refine zc ?_;exact ⟨(k+1,io,il),cV,⟨(by rw[hstep];rfl),(by rw[hstep];rfl),trivial⟩,⟨_,(.refl _),by rw[hstep,mX];rfl⟩,⟨hk2,hsn⟩,by exact hmn⟩
end
section
open Go.Proofs.Tryz
section
variable {E:World} {P:Program} {n:Nat} {l:List Oper} {W:Nat→Bool} {Q:aU→OL→Prop} {fuel:Nat} {listed:Array Bool} {env:aU} {O Os Om:OL}
theorem bJ.many {is:List Nat} (hr:Region.ready .any l.toArray listed=is) (h0:is≠[])
  (h:∀k∈is,∃o,l[k]?=some o∧ax P E l.toArray (fun env' Om'=>bJ P E l W Q fuel (listed.setIfInBounds k true) env' Os Om') [o] env Om):bJ P E l W Q (fuel+1) listed env Os Om:=fun I F ρ w Ls h1 hLs h2=>by
 refine ⟨fun h0'=>absurd (hr.symm.trans h0') h0,fun k hk o2 ho2=>?_⟩;rw[hr] at hk;rw[List.getElem?_toArray] at ho2;obtain ⟨o,e,h⟩:=h k hk;rw[e] at ho2;cases ho2;exact bL.mono (fun ρ' w' ⟨J,env',Om',a,b,c,d⟩=>by
   have hst:eY I.k Ls E w':=by
    obtain ⟨J',L',h3,h4,h5⟩:=c.here;exact ⟨J',L',a.k.trans h3,h4,h5⟩
   refine ⟨⟨hst.less,.inr hst⟩,dn.mono ?_ ?_ (fun _ _=>dB.up a) _ _ _ _ (d J F ρ' w' Ls b (hLs.mono a) c)⟩
   ·rintro w ⟨J',L',h3,h4⟩;exact ⟨J',L',a.k.trans h3,h4⟩
   rintro w ⟨J',L',h3,h4⟩;exact ⟨J',L',a.k.trans h3,h4⟩) _ _ _ (h I (Ls++F) ρ w h1 h2)
theorem bJ.four {i j m q:Nat} {o1 o2 o3 o4:Oper} (hi:l[i]?=some o1) (hj:l[j]?=some o2) (hm:l[m]?=some o3) (hq:l[q]?=some o4) (hr:Region.ready .any l.toArray listed=[i,j,m,q])
  (h1:ax P E l.toArray (fun env' Om'=>bJ P E l W Q fuel (listed.setIfInBounds i true) env' Os Om') [o1] env Om)
  (h2:ax P E l.toArray (fun env' Om'=>bJ P E l W Q fuel (listed.setIfInBounds j true) env' Os Om') [o2] env Om)
  (h3:ax P E l.toArray (fun env' Om'=>bJ P E l W Q fuel (listed.setIfInBounds m true) env' Os Om') [o3] env Om)
  (h4:ax P E l.toArray (fun env' Om'=>bJ P E l W Q fuel (listed.setIfInBounds q true) env' Os Om') [o4] env Om):bJ P E l W Q (fuel+1) listed env Os Om:=
 bJ.many hr (by simp) fun k hk=>by
  simp only[List.mem_cons,List.not_mem_nil,or_false] at hk;rcases hk with rfl|rfl|rfl|rfl
  ·exact ⟨_,hi,h1⟩
  ·exact ⟨_,hj,h2⟩
  ·exact ⟨_,hm,h3⟩
  exact ⟨_,hq,h4⟩
end
def mo (l:List Int):List Int:=l.mergeSort fun x y=>decide (x≤y)
theorem fO (l:List Int):(mo l).Perm l:=List.mergeSort_perm l _
theorem xJ (l:List Int):(mo l).Pairwise (·≤·):=by
 have:=List.pairwise_mergeSort (le:=fun x y:Int=>decide (x≤y)) (fun a b c h1 h2=>by simp at *;omega) (fun a b=>by simp;omega) l;exact this.imp fun h=>by simpa using h
theorem HC {l m:List Int} (hm:m.Pairwise (·<·)):mo l=m↔l.Perm m:=by
 constructor
 ·intro h;rw[←h];exact (fO l).symm
 intro h;exact List.Perm.eq_of_pairwise (le:=fun a b:Int=>a≤b) (fun a b _ _ h1 h2=>Int.le_antisymm h1 h2) (xJ l) (hm.imp fun h=>Int.le_of_lt h) ((fO l).trans h)
theorem tz {l m:List Int} (hn:l.Nodup) (hs:∀x∈l,x∈m) (hl:m.length≤l.length):l.Perm m:=by
 induction l generalizing m with
 |nil=>obtain rfl:m=[]:=w6 (by simpa using hl);exact .refl _
 |cons x l ih=>
  rw[List.nodup_cons] at hn;have hx:=hs x (.head _);have h1:l.Perm (m.erase x):=ih hn.2 (fun y hy=>(List.mem_erase_of_ne (fun e=>hn.1 (by rw[←e];exact hy))).2 (hs y (.tail _ hy))) (by
   rw[List.length_erase_of_mem hx];simp at hl;omega)
  exact (List.Perm.cons x h1).trans (List.perm_cons_erase hx).symm
def Ec (f:ab) (i:Nat) (l:List Int):Prop:=(bm (aj f) f.q.length i).length=l.length∧∀k (h:k<l.length),(i:Int)∈aj f l[k]∧l[k] ∉ l.take k
theorem tA {l:List Int}:l.Nodup↔∀k (h:k<l.length),l[k] ∉ l.take k:=by
 induction l with
 |nil=>simp
 |cons x l ih=>
  rw[List.nodup_cons,ih]
  constructor
  ·rintro ⟨h1,h2⟩ k hk;cases k with
   |zero=>simp
   |succ k=>
    simp only[List.getElem_cons_succ,List.take_succ_cons,List.mem_cons,not_or];have hk':k<l.length:=by simpa using hk
    exact ⟨fun e=>h1 (by rw[←e];exact qx hk'),h2 k hk'⟩
  intro h
  constructor
  ·intro hm;obtain ⟨k,hk,e⟩:=List.mem_iff_getElem.1 hm;have:=h (k+1) (by simpa using hk);simp[e] at this
  intro k hk;have:=h (k+1) (by simpa using hk);simp only[List.getElem_cons_succ,List.take_succ_cons,List.mem_cons,not_or] at this;exact this.2
theorem Fs {f:ab} (hE:cK f) {i:Nat} {l:List Int}:Ec f i l↔l.Perm (bm (aj f) f.q.length i):=by
 have hg:=hE.grph;have hp:=pm (jF f) f.q.length i;unfold Ec
 constructor
 ·rintro ⟨h1,h2⟩;refine tz (tA.2 fun k hk=>(h2 k hk).2) (fun x hx=>?_) (by omega);obtain ⟨k,hk,rfl⟩:=List.mem_iff_getElem.1 hx;exact (j6 hg.toEOk hg.out).2 (h2 k hk).1
 intro h;have hn:=h.nodup_iff.2 hp.1;exact ⟨h.length_eq.symm,fun k hk=>⟨(j6 hg.toEOk hg.out).1 (h.mem_iff.1 (qx hk)),tA.1 hn k hk⟩⟩
theorem qF {f:ab} {i:Nat} {l:List Int}:mo l=bm (aj f) f.q.length i↔l.Perm (bm (aj f) f.q.length i):=HC (pm (jF f) f.q.length i).2
def Ft (b:Nat) (T:TypeId) (vs:List Value):bC:=.heap fun L=>L=[(b,.cells vs.toArray T (0,0))]
def Kw (b off n c:Nat):AV:=.raw (.slice (some ⟨b,off,none⟩) n c)
section
variable {E:World} {P:Program} {ops:Array Oper} {K:aU→OL→Prop} {env:aU} {O O' O'':OL} {rest:List Oper}
variable {d ty:Nat} {pos:String} {af:Array Edge} {x y z:Operand} {t u e T:TypeId}
theorem ax.makeRow {i:TypeInfo} {zv z1:Value} {m:Nat} {k1 k2:IntKind} {l l':Int} (ht:P.underlying t=some (.slice e)) (hi:P.info? e=some i) (hz:i.zero=some zv) (hzc:zv.cells=#[z1]) (hk:i.size=1) (hx:bd env x=.int k1 l) (hy:bd env y=.int k2 l')
  (hl:l=(m:Int)) (hl':l'=(m:Int)) (hb:(i.bytes:Int)*(m:Int)≤281474976710656) (hm:m≤281474976710656) (kk:∀b,ax P E ops K rest (bB env d (Kw b 0 m m)) ((0,Ft b e (List.replicate m z1))::O)) :
  ax P E ops K (Oper.mk (some d) (.makeSlice t x y) ty pos af none::rest) env O:=fun I F ρ w h1 h2=>by
 obtain ⟨htop,L,hL,hS⟩:=h2;refine bL.make1 ht hi hz hzc hk (gV h1 hx) (gV h1 hy) hl hl' hb hm hS fun b w' hS'=>?_;exact kk b I F _ _ (h1.upd d rfl) ⟨htop,_,⟨[(b,.cells (List.replicate m z1).toArray e (0,0))],L,rfl,rfl,hL⟩,by simpa using hS'⟩
theorem Gv.rowLo {b n c j:Nat} {a:Int} (ht:P.underlying t=some (.slice e)) (hs:∀w,(sizeOf e).run P w=.ok 1 w) (hx:bd env x=Kw b 0 n c) (hy:bd env y=.i a) (hi:a=(j:Int)) (hj:j≤n) (hc:j<c) (hnc:n≤c) :
  Gv P env O (Oper.mk (some d) (.slice t x (some y) none none) ty pos af none) (Kw b j (n - j) (c - j)):=Gv.ofEv fun I ρ h=>by
 have h1:=iZ h hx;have h2:=gV h hy;subst hi;refine ⟨_,U,fun w=>?_⟩;have hcj:¬c=j:=by omega
 simp[execOp,Instr.sliceAt,Instr.slice,Instr.sliceBounds,Instr.sliceBound,asIntOf,Sem.run_bind,run_underlying ht,hs,h1,h2,hcj,hj,ec]
theorem Gv.rowHi {b n c j:Nat} {a:Int} (ht:P.underlying t=some (.slice e)) (hs:∀w,(sizeOf e).run P w=.ok 1 w) (hx:bd env x=Kw b 0 n c) (hy:bd env y=.i a) (hi:a=(j:Int)) (hc:j≤c) :
  Gv P env O (Oper.mk (some d) (.slice t x none (some y) none) ty pos af none) (Kw b 0 j c):=Gv.ofEv fun I ρ h=>by
 have h1:=iZ h hx;have h2:=gV h hy;subst hi;refine ⟨_,U,fun w=>?_⟩;simp[execOp,Instr.sliceAt,Instr.slice,Instr.sliceBounds,Instr.sliceBound,asIntOf,Sem.run_bind,run_underlying ht,hs,h1,h2,hc,ec]
theorem Gv.lenRow {b off m c:Nat} (ht:P.underlying t=some (.slice T)) (hx:bd env x=Kw b off m c):Gv P env O (Oper.mk (some d) (.call { callee:=.builtin .len,args:=#[x],argTypes:=#[t] }) ty pos af none) (.i m):=Gv.ofEv fun I ρ h=>by
 have h1:=iZ h hx;exact ⟨_,rfl,fun w=>by simp[execOp,resolve,h1,invoke,builtin,Builtin.len_,run_underlying ht,goInt]⟩
theorem ax.copyRow {b off dl dc sl q:Nat} {vs cs:List Value} {ty2:TypeId} (ht:P.underlying t=some (.slice e)) (hs:(P.info? e).map (·.size)=some 1) (hx:bd env x=Kw b off dl dc)
  (hq:cs.length=q) (hmin:q=Nat.min sl dl) (hO:gc O 0 (Ft b T vs) (Ft b T (vs.take off++cs++vs.drop (off+q))) O') (hfit:off+q≤vs.length) (h1c:∀v∈cs,v.oneCell'=true)
  (hy:∀I F ρ w,fy I env ρ→iT I O F E w→∃a sc,ev ρ y=.slice (some a) sl sc∧∀j v,cs[j]?=some v→w.cell? (a.add j)=some v)
  (kk:ax P E ops K rest (bB env d (.i q)) O') :
  ax P E ops K (Oper.mk (some d) (.call { callee:=.builtin .copy,args:=#[x,y],argTypes:=#[t,ty2] }) ty pos af none::rest) env O:=fun I F ρ w h1 h2=>by
 obtain ⟨a,sc,ey,hsrc⟩:=hy I F ρ w h1 h2;obtain ⟨htop,L,hL,hS⟩:=h2;have ex:=iZ h1 hx;obtain ⟨A,B,hp,hA,hback⟩:=hO.rep hL;have hA:A=[(b,.cells vs.toArray T (0,0))]:=hA;subst hA;have hS2:SL I.k ((b,.cells vs.toArray T (0,0))::(B++F)) E w:=hS.perm ((hp.append_right F).symm);have hrun:=run_copy_row (P:=P) w t ty2 ty e b off dl dc a sl sc vs.toArray T cs ht hs (hS2.j _ (.head _)) (by rw[hq,hmin]) hsrc (by simpa [hq] using hfit) h1c;rw[hq] at hrun;obtain ⟨L',h5,h6⟩:=hback (G.le.refl I) (A':=[(b,.cells (vs.take off++cs++vs.drop (off+q)).toArray T (0,0))]) rfl;refine bL.step U ?_;unfold mJ;have hex:(execOp (Go.Proofs.YtbbonnfjealmpaaGreatDoor.ev ρ) (Oper.mk (some d) (.call { callee:=.builtin .copy,args:=#[x,y],argTypes:=#[t,ty2] }) ty pos af none)).run P w=.ok (.value (goInt q)) (w.setRow b (vs.take off++cs++vs.drop (off+q)).toArray):=by
  simp only[execOp,resolve];simp at hrun;simp[invoke,builtin,ex,ey,hrun]
 rw[hex];refine kk I F _ _ (h1.upd d U) ⟨htop,L',h5,?_⟩;exact (hS2.turn1).perm (h6.append_right F)
theorem bY.rowOwn {t b m:Nat} {vs:List Value} {O1:OL} {c:Code} {Q:Exit→aU→OL→Prop} {n:Nat} (hv:env t=Kw b 0 m m) (hO:dI O 0 (Ft b T vs) O1) (hm:vs.length=m) (hc:∀u∈vs,u.oneCell'=true)
  (h:∀i,bY P E n c Q (bB env t (.j i m)) ((i,.u 1 T (vs.map lit))::O1)):bY P E n c Q env O:=fun I F ρ w h1 h2=>by
 obtain ⟨i,hi⟩:=h2.name;obtain ⟨J,e1,hle,e2,htop⟩:=hi (some b,m);obtain ⟨_,L,hL,hS⟩:=h2;obtain ⟨A,B,hp,hA,hB⟩:=hO.rep hL;have hA:A=[(b,.cells vs.toArray T (0,0))]:=hA;subst hA;refine (h i J F ρ w (fun q=>?_) ⟨htop,_,⟨[(b,.cells vs.toArray T (0,0))],B,U,⟨some b,m,m,vs,e2,fj J vs,hc,fI.made (by rw[hm,Nat.mul_one])⟩,hB.mono hle⟩,by rw[e1];exact hS.perm (hp.symm.append_right F)⟩).mono fun _ _ _=>nS.up hle;unfold bB;cases hb:Nat.beq q t with
 |false=>exact bW.mono hle _ _ (h1 q)
 |true=>
  have:q=t:=Nat.eq_of_beq_eq_true hb;subst this;have h4:=h1 q;rw[hv] at h4;exact ⟨some b,m,e2,h4⟩
end
end
end Go.Proofs.YtbbonnfjealmpaaGreatDoor
namespace Go.Proofs
open Go.Shelf
def Tryz.lays189_ren:Go.Shelf.Ren:=⟨fun|189=>167|125=>206|257=>205|128=>228|129=>229|294=>219|295=>220|296=>221|297=>222|298=>223|299=>224|216=>225|300=>226|301=>227|328=>235|329=>236|330=>237|331=>238|332=>239|215=>240|343=>244|n=>n,fun|28=>23|3=>3|46=>229|0=>0|51=>262|53=>208|4=>4|183=>282|182=>281|131=>286|5=>5|9=>9|218=>296|222=>300|228=>312|229=>89|n=>n,fun|n=>n⟩
theorem Tryz.lays189:Go.Proofs.Lays.n189 prog Tryz.lays189_ren:={
 mixed:=by kernel_rfl
 f125:=func206.trans (congrArg some (by kernel_rfl))
 f128:=func228.trans (congrArg some (by kernel_rfl))
 f129:=func229.trans (congrArg some (by kernel_rfl))
 f189:=func167.trans (congrArg some (by kernel_rfl))
 f215:=func240.trans (congrArg some (by kernel_rfl))
 f216:=func225.trans (congrArg some (by kernel_rfl))
 f257:=func205.trans (congrArg some (by kernel_rfl))
 f294:=func219.trans (congrArg some (by kernel_rfl))
 f295:=func220.trans (congrArg some (by kernel_rfl))
 f296:=func221.trans (congrArg some (by kernel_rfl))
 f297:=func222.trans (congrArg some (by kernel_rfl))
 f298:=func223.trans (congrArg some (by kernel_rfl))
 f299:=func224.trans (congrArg some (by kernel_rfl))
 f300:=func226.trans (congrArg some (by kernel_rfl))
 f301:=func227.trans (congrArg some (by kernel_rfl))
 f328:=func235.trans (congrArg some (by kernel_rfl))
 f329:=func236.trans (congrArg some (by kernel_rfl))
 f330:=func237.trans (congrArg some (by kernel_rfl))
 f331:=func238.trans (congrArg some (by kernel_rfl))
 f332:=func239.trans (congrArg some (by kernel_rfl))
 f343:=func244.trans (congrArg some (by kernel_rfl))
 t0:=underlying0
 a0:=isAgg0
 z0:=sizeOf0
 v0:=zeroValue0
 t3:=underlying3
 a3:=isAgg3
 z3:=sizeOf3
 v3:=zeroValue3
 t4:=underlying4
 a4:=isAgg4
 z4:=sizeOf4
 v4:=zeroValue4
 t5:=underlying5
 a5:=isAgg5
 z5:=sizeOf5
 v5:=zeroValue5
 t9:=underlying9
 a9:=isAgg9
 z9:=sizeOf9
 v9:=zeroValue9
 t28:=underlying23
 a28:=isAgg23
 z28:=sizeOf23
 v28:=zeroValue23
 t46:=underlying229
 a46:=isAgg229
 z46:=sizeOf229
 v46:=zeroValue229
 t51:=underlying262
 a51:=isAgg262
 z51:=sizeOf262
 v51:=zeroValue262
 t53:=underlying208
 a53:=isAgg208
 z53:=sizeOf208
 v53:=zeroValue208
 t131:=underlying286
 a131:=isAgg286
 z131:=sizeOf286
 v131:=zeroValue286
 t182:=underlying281
 a182:=isAgg281
 z182:=sizeOf281
 v182:=zeroValue281
 t183:=underlying282
 a183:=isAgg282
 z183:=sizeOf282
 v183:=zeroValue282
 t218:=underlying296
 a218:=isAgg296
 z218:=sizeOf296
 v218:=zeroValue296
 t222:=underlying300
 a222:=isAgg300
 z222:=sizeOf300
 v222:=zeroValue300
 t228:=underlying312
 a228:=isAgg312
 z228:=sizeOf312
 v228:=zeroValue312
 t229:=underlying89
 a229:=isAgg89
 z229:=sizeOf89
 v229:=zeroValue89 }
open Go.Sort Go.RowKit in
theorem Tryz.slices_Sort_int (blk off cap:Nat) (zs:List Int) (w:World) (hH:Holds (Value.int .i64) w blk off zs.toArray) (hblk:blk<w.heap.size) (hsz:zs.length<4611686018427387904) :
  Calls prog 167 #[.slice (some ⟨blk,off,none⟩) zs.length cap] w fun e w'=>
   e=.returned (.tuple #[])∧∃n os,w'=grow (putRow (Value.int .i64) (Sort.ahead w n) blk off (zs.mergeSort fun x y=>decide (x≤y)).toArray) os:=Any.slices_Sort_int Tryz.lays189 blk off cap zs w hH hblk hsz
def Tryz.lays200_ren:Go.Shelf.Ren:=⟨fun|200=>207|261=>230|311=>241|312=>242|n=>n,fun|21=>21|4=>4|51=>262|5=>5|119=>290|0=>0|141=>292|196=>305|193=>302|3=>3|198=>307|49=>31|194=>303|201=>310|226=>314|46=>229|227=>315|n=>n,fun|7=>0|8=>1|n=>n⟩
theorem Tryz.lays200:Go.Proofs.Lays.n200 prog Tryz.lays200_ren:={
 mixed:=by kernel_rfl
 f200:=func207.trans (congrArg some (by kernel_rfl))
 f261:=func230.trans (congrArg some (by kernel_rfl))
 f311:=func241.trans (congrArg some (by kernel_rfl))
 f312:=func242.trans (congrArg some (by kernel_rfl))
 t0:=underlying0
 a0:=isAgg0
 z0:=sizeOf0
 v0:=zeroValue0
 t3:=underlying3
 a3:=isAgg3
 z3:=sizeOf3
 v3:=zeroValue3
 t4:=underlying4
 a4:=isAgg4
 z4:=sizeOf4
 v4:=zeroValue4
 t5:=underlying5
 a5:=isAgg5
 z5:=sizeOf5
 v5:=zeroValue5
 t21:=underlying21
 a21:=isAgg21
 z21:=sizeOf21
 v21:=zeroValue21
 t46:=underlying229
 a46:=isAgg229
 z46:=sizeOf229
 v46:=zeroValue229
 t49:=underlying31
 a49:=isAgg31
 z49:=sizeOf31
 v49:=zeroValue31
 t51:=underlying262
 a51:=isAgg262
 z51:=sizeOf262
 v51:=zeroValue262
 t119:=underlying290
 a119:=isAgg290
 z119:=sizeOf290
 t141:=underlying292
 a141:=isAgg292
 z141:=sizeOf292
 v141:=zeroValue292
 t193:=underlying302
 a193:=isAgg302
 z193:=sizeOf302
 v193:=zeroValue302
 t194:=underlying303
 a194:=isAgg303
 z194:=sizeOf303
 v194:=zeroValue303
 t196:=underlying305
 a196:=isAgg305
 z196:=sizeOf305
 v196:=zeroValue305
 t198:=underlying307
 a198:=isAgg307
 z198:=sizeOf307
 v198:=zeroValue307
 t201:=underlying310
 a201:=isAgg310
 z201:=sizeOf310
 v201:=zeroValue310
 t226:=underlying314
 a226:=isAgg314
 z226:=sizeOf314
 v226:=zeroValue314
 t227:=underlying315
 a227:=isAgg315
 z227:=sizeOf315
 v227:=zeroValue315
 g7:=by kernel_rfl
 g8:=by kernel_rfl }
def Tryz.lays264_ren:Go.Shelf.Ren:=⟨fun|264=>203|n=>n,fun|53=>208|46=>229|n=>n,fun|n=>n⟩
theorem Tryz.lays264:Go.Proofs.Lays.n264 prog Tryz.lays264_ren:={
 mixed:=by kernel_rfl
 f264:=func203.trans (congrArg some (by kernel_rfl))
 t46:=underlying229
 a46:=isAgg229
 z46:=sizeOf229
 v46:=zeroValue229
 t53:=underlying208
 a53:=isAgg208
 z53:=sizeOf208
 v53:=zeroValue208 }
open Go.RowKit Go.Lib in
theorem Tryz.bits_Mul64 (x y:Nat) (hx:x<18446744073709551616) (hy:y<18446744073709551616) (w:World) :
  Calls prog 203 #[.int .u64 x,.int .u64 y] w fun e w'=>e=.returned (.tuple #[.int .u64 ((x*y / 18446744073709551616:Nat):Int),.int .u64 ((x*y % 18446744073709551616:Nat):Int)])∧w'=w:=Any.bits_Mul64 Tryz.lays264 x y hx hy w
def Tryz.lays212_ren:Go.Shelf.Ren:=⟨fun|212=>165|263=>202|264=>203|n=>n,fun|46=>229|51=>262|146=>263|53=>208|148=>265|n=>n,fun|n=>n⟩
theorem Tryz.lays212:Go.Proofs.Lays.n212 prog Tryz.lays212_ren:={
 mixed:=by kernel_rfl
 f212:=func165.trans (congrArg some (by kernel_rfl))
 f263:=func202.trans (congrArg some (by kernel_rfl))
 f264:=func203.trans (congrArg some (by kernel_rfl))
 t46:=underlying229
 a46:=isAgg229
 z46:=sizeOf229
 v46:=zeroValue229
 t51:=underlying262
 a51:=isAgg262
 z51:=sizeOf262
 v51:=zeroValue262
 t53:=underlying208
 a53:=isAgg208
 z53:=sizeOf208
 v53:=zeroValue208
 t146:=underlying263
 a146:=isAgg263
 z146:=sizeOf263
 v146:=zeroValue263
 t148:=underlying265
 a148:=isAgg265
 z148:=sizeOf265
 v148:=zeroValue265 }
open Go.RowKit Go.Lib in
theorem Tryz.bits_Mul (x y:Nat) (hx:x<18446744073709551616) (hy:y<18446744073709551616) (w:World) :
  Calls prog 165 #[.int .u64 x,.int .u64 y] w fun e w'=>e=.returned (.tuple #[.int .u64 ((x*y / 18446744073709551616:Nat):Int),.int .u64 ((x*y % 18446744073709551616:Nat):Int)])∧w'=w:=Any.bits_Mul Tryz.lays212 x y hx hy w
open Go.RowKit Go.Lib in
theorem Tryz.unicode_IsLetter_all (r:Int) (w:World) (hlo:-2147483648≤r) (hhi:r≤2147483647) (htab:Lib.TabIs prog w "unicode.properties" .u8 Lib.propertiesTab) (hV:RVar 1 letterT w) :
  Calls prog 207 #[.int .i32 r] w fun e w'=>e=.returned (.bool (isLetterU r))∧Below w.heap.size w w':=Any.unicode_IsLetter_all Tryz.lays200 (by kernel_rfl) r w hlo hhi htab hV
def Tryz.lays107_ren:Go.Shelf.Ren:=⟨fun|107=>166|108=>204|n=>n,fun|28=>23|3=>3|4=>4|0=>0|n=>n,fun|n=>n⟩
def Tryz.lays112_ren:Go.Shelf.Ren:=⟨fun|112=>201|n=>n,fun|28=>23|3=>3|4=>4|0=>0|n=>n,fun|n=>n⟩
theorem Tryz.lays112:Go.Proofs.Lays.n112 prog Tryz.lays112_ren:={
 mixed:=by kernel_rfl
 f112:=func201.trans (congrArg some (by kernel_rfl))
 t0:=underlying0
 a0:=isAgg0
 z0:=sizeOf0
 v0:=zeroValue0
 t3:=underlying3
 a3:=isAgg3
 z3:=sizeOf3
 v3:=zeroValue3
 t4:=underlying4
 a4:=isAgg4
 z4:=sizeOf4
 v4:=zeroValue4
 t28:=underlying23
 a28:=isAgg23
 z28:=sizeOf23
 v28:=zeroValue23 }
open Go.RowKit Go.Lib Go.Sort in
theorem Tryz.slices_Reverse_int (blk off cap:Nat) (zs:List Int) (w:World) (hH:Holds (Value.int .i64) w blk off zs.toArray) (hsz:zs.length≤9223372036854775807) :
  Calls prog 201 #[.slice (some ⟨blk,off,none⟩) zs.length cap] w fun e w'=>e=.returned (.tuple #[])∧∃n,w'=putRow (Value.int .i64) (Sort.ahead w n) blk off zs.reverse.toArray:=Any.slices_Reverse_int Tryz.lays112 blk off cap zs w hH hsz
open Go.RowKit Go.Lib Go.Sort in
theorem Tryz.slices_Reverse_int_empty (a:Option Addr) (cap:Nat) (w:World) :
  Calls prog 201 #[.slice a 0 cap] w fun e w'=>e=.returned (.tuple #[])∧w'=w:=Any.slices_Reverse_int_empty Tryz.lays112 a cap w
open Go.RowKit Go.Sort in
theorem Tryz.slices_Sort_int_none (p:Option Addr) (cap:Nat) (w:World) :
  Calls prog 167 #[.slice p 0 cap] w fun e w'=>e=.returned (.tuple #[])∧w'=w:=Any.slices_Sort_int_none Tryz.lays189 p cap w
end Go.Proofs
namespace Go.Proofs.YtbbonnfjealmpaaGreatDoor
section
open Go.Proofs.Tryz
open Go.Proofs
variable {E:World}
set_option maxRecDepth 20000
theorem Aa (l:List Int) (i:Nat) (T:TypeId) (hl:l.length≤200000):aX prog E 201 [.j i l.length] [(i,.u 1 T (cI l))] fun r O=>r=.tup []∧O=[(i,.u 1 T (cI l.reverse))]:=
 aX.turned (g:=List.reverse) (B:=200001) func201 rfl (by decide) (fun l=>List.length_reverse) (fun blk cap zs w hH _ hz=>(Tryz.slices_Reverse_int blk 0 cap zs w hH (by omega)).mono fun e w' ⟨h1,n,h2⟩=>⟨h1,n,#[],by rw[h2,Go.Sort.grow_empty]⟩)
  (fun cap w=>Tryz.slices_Reverse_int_empty none cap w) rfl (by omega)
theorem Ab (l:List Int) (i:Nat) (T:TypeId) (hl:l.length≤200000):aX prog E 167 [.j i l.length] [(i,.u 1 T (cI l))] fun r O=>r=.tup []∧O=[(i,.u 1 T (cI (mo l)))]:=
 aX.turned (g:=mo) (B:=200001) func167 rfl (by decide) (fun l=>(fO l).length_eq) (fun blk cap zs w hH hb hz=>Tryz.slices_Sort_int blk 0 cap zs w hH hb (by omega))
  (fun cap w=>Tryz.slices_Sort_int_none none cap w) rfl (by omega)
theorem aS.ofSame {E:World} {P:Program} {f:FuncId} {fn:Func} {c:Code} {ars:List AV} {vs:List Value} {r:Value} {x:AV} (hf:P.funcs[f]?=some fn) (hb:fn.body=some c) (hn:fn.name≠"runtime.NumGoroutine") (has:ars=vs.map lit)
  (h:∀w,Calls P f vs.toArray w fun e w'=>e=.returned r∧w'=w) (hr:∀I,bW I x r):aS P E f ars x:=fun I F w us h1 h2=>by
 subst has;rw[nw h1];refine Fn.ofCalls hf hb hn ?_;exact (h w).mono fun e w' ⟨he,hw⟩=>⟨_,he,I,x,[],.refl _,hr I,by rw[hw];exact h2,rfl⟩
theorem Fu (x y:Nat) (hx:x<18446744073709551616) (hy:y<18446744073709551616):aS prog E 165 [.int .u64 (x:Int),.int .u64 (y:Int)] (.tup [.int .u64 ((x*y / 18446744073709551616:Nat):Int),.int .u64 ((x*y % 18446744073709551616:Nat):Int)]):=
 aS.ofSame (vs:=[.int .u64 x,.int .u64 y]) func165 rfl (by decide) rfl (fun w=>Tryz.bits_Mul x y hx hy w) (fun I=>⟨_,rfl,_,_,rfl,rfl,_,_,rfl,rfl,rfl⟩)
theorem CJ (x y:Nat) (hx:x<18446744073709551616) (hy:y<18446744073709551616):aS prog E 203 [.int .u64 (x:Int),.int .u64 (y:Int)] (.tup [.int .u64 ((x*y / 18446744073709551616:Nat):Int),.int .u64 ((x*y % 18446744073709551616:Nat):Int)]):=
 aS.ofSame (vs:=[.int .u64 x,.int .u64 y]) func203 rfl (by decide) rfl (fun w=>Tryz.bits_Mul64 x y hx hy w) (fun I=>⟨_,rfl,_,_,rfl,rfl,_,_,rfl,rfl,rfl⟩)
def Co (v:Int) (n k:Nat):List Value:=List.replicate k (.int .i64 v)++List.replicate (n - k) (.int .i64 0)
theorem Ed {v:Int} {n k:Nat} (h:k≤n):(Co v n k).length=n:=by unfold Co;simp;omega
theorem Ac {v:Int} {n k q:Nat} (h:q≤k):(Co v n k).take q=List.replicate q (.int .i64 v):=by unfold Co;rw[List.take_append_of_le_length (by simp;exact h),List.take_replicate,Nat.min_eq_left h]
theorem HD {v:Int} {n k q:Nat} (h:k+q≤n):(Co v n k).take k++List.replicate q (.int .i64 v)++(Co v n k).drop (k+q)=Co v n (k+q):=by
 rw[Ac (Nat.le_refl _)];unfold Co;rw[List.drop_append,List.drop_eq_nil_of_le (by simp),List.length_replicate,List.drop_replicate,List.replicate_append_replicate,List.nil_append]
 congr 2
 omega
theorem Kx {v:Int} {n k:Nat}:∀u∈Co v n k,u.oneCell'=true:=fun u hu=>by
 unfold Co at hu;rcases List.mem_append.1 hu with h|h
 ·rw[List.eq_of_mem_replicate h];rfl
 rw[List.eq_of_mem_replicate h];rfl
theorem HE (v:Int) (n:Nat):(Co v n n).map lit=cI (List.replicate n v):=by unfold Co cI;simp[lit]
theorem Ky {I:G} {k:IntKind} {v:Int} {x:Value} (h:bW I (.fro 1 [[.int k v]]) x):∃b off c,x=.slice (some ⟨b,off,none⟩) 1 c∧GR I.k b off (.int k v):=by
 obtain ⟨a,n,c,e,hn,_,_,⟨b,off,vs,ea,hl,hr,hk⟩,_⟩:=h;obtain ⟨u,us,rfl,hu,_⟩:=hr;have hu:u=.int k v:=hu;subst ea hu;simp only[List.length_cons,List.length_nil] at hn;subst hn;exact ⟨b,off,c,e,by have:=hk 0 _ rfl;simpa using this⟩
theorem MM {env:aU} {O:OL} {y:Operand} {k:IntKind} {v:Int} (hy:bd env y=.fro 1 [[.int k v]]):∀I F ρ w,fy I env ρ→iT I O F E w→∃a sc,ev ρ y=.slice (some a) 1 sc∧∀j u,([Value.int k v]:List Value)[j]?=some u→w.cell? (a.add j)=some u:=fun I F ρ w h1 h2=>by
 have h:=h1.ev y;rw[hy] at h;obtain ⟨b,off,c,e,hk⟩:=Ky h;obtain ⟨_,L,_,hS⟩:=h2;refine ⟨⟨b,off,none⟩,c,e,fun j u hj=>?_⟩;cases j with
 |zero=>simp at hj;subst hj;rw[ec];exact hS.at_ (hk.at_ _)
 |succ j=>simp at hj
theorem MN {env:aU} {O O':OL} {y:Operand} {b n c:Nat} {T:TypeId} {vs cs:List Value} (hy:bd env y=Kw b 0 n c) (hO:dI O 0 (Ft b T vs) O') (hc:∀(j:Nat) u,cs[j]?=some u→vs[j]?=some u):∀I F ρ w,fy I env ρ→iT I O F E w→∃a sc,ev ρ y=.slice (some a) n sc∧∀j u,cs[j]?=some u→w.cell? (a.add j)=some u:=fun I F ρ w h1 h2=>by
 have h:=iZ h1 hy;obtain ⟨_,L,hL,hS⟩:=h2;obtain ⟨A,B,hp,hA,hB⟩:=hO.rep hL;have hA:A=[(b,.cells vs.toArray T (0,0))]:=hA;subst hA;have hS2:SL I.k ((b,.cells vs.toArray T (0,0))::(B++F)) E w:=hS.perm ((hp.append_right F).symm);refine ⟨⟨b,0,none⟩,c,h,fun j u hj=>?_⟩;rw[ec,hS2.cell_own,List.getElem?_toArray,Nat.zero_add];exact hc j u hj
theorem cL (v:Int) (n:Nat) (hn:n≤100000) (h0:0<n):aX prog E 116 [.fro 1 ([v].map b7),.i n] [] (fun x O'=>∃i:Nat,x=.j i n∧O'=[(i,.u 1 3 (cI (List.replicate n v)))]):=by
 have hw:IntKind.wrap .u64 (n:Int)=n:=by unfold IntKind.wrap;simp[IntKind.bits,IntKind.signed];omega
 have hm:(1*n / 18446744073709551616:Nat)=0:=by omega
 have hm2:(1*n % 18446744073709551616:Nat)=n:=by omega
 refine zm func116 U (by decide) U ?_;have hmul:aS prog E 165 [.int .u64 1,.int .u64 (IntKind.wrap .u64 (n:Int))] (.tup [.int .u64 0,.int .u64 (n:Int)]):=by
  have:=Fu (E:=E) 1 n (by omega) (by omega);rw[hm,hm2] at this;rw[hw];exact this
 refine Z<|X (kT U)<|Y<|za<|Z<|C U<|aq U U<|Y<|yl U (by simp)<|zc<|Z<|bj U<|am j7 U<|X (Gv.conv X0 X7 U)<|C U<|X (Gv.conv X0 X7 U)<|zb (hmul) U<|X (v8 U)<|X (nU U U)<|X (nU U U)<|ap U<|ap U<|Y<|za<|Z<|C U<|bg U U<|aw U<|M U U (by decide)<|C U<|M U U (by decide)<|bg U U<|X (GT U (by decide) U)<|Y<|yl U (by simp;omega)<|zc<|Z<|C U<|X (Gv.conv X7 X0 U)<|ax.makeRow (m:=n) j7 Y6 U U U U U (by show IntKind.wrap .i64 (n:Int)=n;unfold IntKind.wrap;simp[IntKind.bits,IntKind.signed];omega) (by show IntKind.wrap .i64 (n:Int)=n;unfold IntKind.wrap;simp[IntKind.bits,IntKind.signed];omega) (by show (8:Int)*_≤_;omega) (by omega)<|fun b=>X (kT U) ?_;refine Y<|Z<|X (yn (v:=.raw _) U)<|bj U<|ax.copyRow (cs:=[.int .i64 v]) (q:=1) j7 U U U (Nat.min_eq_left h0).symm .head (by rw[List.length_replicate];omega) (by simp[Value.oneCell']) (MM U) ?_
 have hstart:(List.replicate n (Value.int .i64 0)).take 0++[Value.int .i64 v]++(List.replicate n (Value.int .i64 0)).drop (0+1)=Co v n 1:=by unfold Co;simp[List.drop_replicate]
 rw[hstart];refine ap U<|Y<|za<|zd<|zu (γ:=Nat) [7] (fun k=>[(8,.i k)]) (fun k=>[(0,Ft b 3 (Co v n k))]) (fun k=>1≤k∧k≤n) (fun k=>n - k) 1 aN aJ (⟨Nat.le_refl _,h0⟩) ?_;rintro k ⟨hk1,hk⟩;refine za<|Z<|C U<|X (yn (v:=.raw _) U)<|X (Gv.lenRow j7 U)<|aq U U<|Y<|zh U (fun ck=>?_) (fun ck=>?_)
 ·have hk2:k<n:=by simp at ck;omega
  obtain ⟨q,hq⟩:∃q,q=min k (n - k):=⟨_,rfl⟩;have hq1:0<q∧q≤k∧k+q≤n:=by omega
  refine zc<|zd<|zn (fun j=>false) (by kernel_rfl) U (zk (.rest _))<|D 0 U (dC U)<|D 1 U (yn (v:=.raw _) U)<|D 2 U (dC U)<|D 3 U (Gv.rowLo (j:=k) j7 j9 U U U (by omega) (by omega) (by omega))<|D 4 U (yn (v:=.raw _) U)<|D 5 U (dC U)<|D 6 U (Gv.rowHi (j:=k) j7 j9 U U U (by omega))<|bp 7 U<|ax.copyRow (cs:=List.replicate q (.int .i64 v)) (q:=q) j7 U U (List.length_replicate ..) hq .head (by rw[Ed hk];omega) (fun u hu=>by rw[List.eq_of_mem_replicate hu];rfl) (MN (vs:=Co v n k) U .head (fun j u hj=>by rw[←Ac (v:=v) (n:=n) hq1.2.1,List.getElem?_take] at hj;split at hj;exact hj;cases hj)) ?_;rw[HD hq1.2.2];refine Y<|D 8 U (ky U U)<|D 9 U (DS U)<|dS ?_;exact ⟨k+q,aN,aN,aJ,⟨by omega,hq1.2.2⟩,by omega⟩
 have hkn:k=n:=by simp at ck;omega
 subst hkn;refine zt<|Z<|X (yn (v:=.raw _) U)<|X (kT U)<|Y<|bY.rowOwn (t:=4) U .head (Ed (Nat.le_refl _)) Kx (fun i=>?_);rw[HE];refine zf<|yz (x:=.j _ _) U ?_;exact ⟨i,rfl,rfl⟩
end
section
open Go.Proofs.Tryz
open Go.Proofs
theorem N6:lJ prog 54 1 [.int .i64 0,.int .i64 0]:=⟨_,_,_,Z8,zeroValue54,j9,rfl⟩
set_option maxRecDepth 20000
variable {E:World}
def iK (f:ab) (x:aB):Bool:=decide ((cF x.op).1=⟨#[]⟩)||!decide (x.args.length=(aW x.op).length)||!x.args.all (bn f)
def jB (f:ab) (x:aB):Bool:=(bF x.op&&!bn f x.dst)||(!bF x.op&&!decide (x.dst=-1))
def em (f:ab) (x:aB):Bool:=!iK f x&&!jB f x&&(decide (x.num=0)||sU x.op)
def bP (f:ab) (t:fJ):Bool:=if t.kind=0 then eQ f t.to0&&decide (t.to1=0)&&decide (t.var=0) else if t.kind=1 then bn f t.var&&eQ f t.to0&&eQ f t.to1 else
 if t.kind=2 then bn f t.var&&decide (t.to0=0∧t.to1=0) else false
theorem Ad (a b c d:Int) (w:World):(Op.equalIn 10000 54 (.agg [.int .i64 a,.int .i64 b].toArray) (.agg [.int .i64 c,.int .i64 d].toArray)).run prog w=.ok (decide (a=c∧b=d)) w:=Mo a b c d w 9998
theorem Fv (f:ab) (x:aB) (hx:s7 x.args):aS prog E 155 [.agg (bH f),.agg (bu x)] (.bool (em f x)):=by
 have hl:=hx.lt;refine zm func155 U (by decide) U<|Z<|zx (cs:=_) U U U<|zx (cs:=_) U U U<|ah U<|Y<|Z<|ao jd U Zu U U<|aD Y2 U<|zb (sZ _) U<|X (v8 U)<|X (nU U U)<|X (Cm U U)<|ap U<|ah U<|Y<|za<|zd<|za<|zn (fun j=>false) (by kernel_rfl) U (zk (.rest _))<|D 0 U (dk jd U Zu U U)<|D 1 U (d9 Y2 U)<|bp 2 U<|zb (E7 _) U<|Y<|D 3 U (q6 U U)<|D 4 U (Cl U)<|bJ.case (s:=18) U (fun c1=>?_) (fun c1=>?_)
 ·refine fX 5 U U U c1<|fX 6 U U U c1<|fX 7 U U U c1<|fX 8 U U U c1<|fX 9 U U U c1<|fX 10 U U U c1<|fX 11 U U U c1<|fX 12 U U U c1<|D 13 U (G4 U c1 U)<|D 14 U (Cl U)<|fX 15 U U U U<|fX 16 U U U U<|fX 17 U U U U<|fX 18 U U U U<|fX 19 U U U U<|D 20 U (G4 U U U)<|D 21 U (sx U)<|dS<|ym U U<|Z<|ah U<|Y<|zf ?_
  repeat (first|refine ad ?_|refine aa ?_)
  refine bt U ?_;exact jb (by simp_all[em,iK,jB,Int.ofNat_inj]<;>grind)
 refine iU 5 U U U c1 (dk jd U jh U U)<|iU 6 U U U c1 (gJ jy U)<|iU 7 U U U c1 (Gv.lenM j7 U)<|iU 8 U U U c1 (dk jd U Zu U U)<|iU 9 U U U c1 (d9 Y2 U)<|bp 10 U<|M U U c1<|zb (sY _) U<|Y<|iU 11 U U U c1 (Gv.lenM underlying222 U)<|iU 12 U U U c1 (Gv.neqI U U)<|D 13 U (GT U c1 U)<|D 14 U (Cl U)<|bJ.case (s:=28) U (fun c2=>?_) (fun c2=>?_)
 ·refine fX 15 U U U c2<|fX 16 U U U c2<|fX 17 U U U c2<|fX 18 U U U c2<|fX 19 U U U c2<|D 20 U (G4 U c2 U)<|D 21 U (sx U)<|dS<|ym U U<|Z<|ah U<|Y<|zf ?_
  repeat (first|refine ad ?_|refine aa ?_)
  refine bt U ?_;exact jb (by simp_all[em,iK,jB,Int.ofNat_inj]<;>grind)
 refine iU 15 U U U c2 (yj Z2 jk U U)<|iU 16 U U U c2 (dk jd U jh U U)<|iU 17 U U U c2 (gJ jy U)<|bp 18 U<|M U U c2<|zb (wj _ _ (by omega)) U<|Y<|iU 19 U U U c2 (Gv.not U)<|D 20 U (GT U c2 U)<|D 21 U (sx U)<|dS<|zq U (fun c3=>?_) (fun c3=>?_)
 ·refine Z<|ah U<|Y<|zf ?_
  repeat (first|refine ad ?_|refine aa ?_)
  refine bt U ?_;exact jb (by simp_all[em,iK,jB,Int.ofNat_inj]<;>grind)
 refine Z<|aw U<|aw U<|zo (s:=37) U (fun c4=>?_) (fun c4=>?_)
 ·refine M U U c4<|ae Z2 jk U U<|M U U c4<|ao jd U j9 U U<|M U U c4<|aD jg U<|M U U c4<|zb (mP _ _) U<|M U U c4<|aL U<|aA U c4 U<|aw U<|zo (s:=44) U (fun c5=>?_) (fun c5=>?_)
  ·refine H U U c5<|H U U c5<|H U U c5<|zg U U<|zg U U<|zg U U<|H U U c5<|aA U c5 U<|ah U<|Y<|ym U U<|Z<|ah U<|Y<|zf ?_
   repeat (first|refine ad ?_|refine aa ?_)
   refine bt U ?_;exact jb (by simp_all[em,iK,jB,Int.ofNat_inj]<;>grind)
  refine M U U c5<|aw U<|M U U c5<|aL U<|M U U c5<|aw U<|zo (s:=47) U (fun c6=>?_) (fun c6=>?_)
  ·refine M U U c6<|ao jd U j9 U U<|M U U c6<|aD jg U<|M U U c6<|aT U U<|M U U c5<|aA U c6 U<|ay U c5 U<|ah U<|Y<|zq U (fun c7=>?_) (fun c7=>?_)
   ·refine Z<|ah U<|Y<|zf ?_
    repeat (first|refine ad ?_|refine aa ?_)
    refine bt U ?_;exact jb (by simp_all[em,iK,jB,Int.ofNat_inj]<;>grind)
   refine zc<|Z<|ao jd U Z0 U U<|aD Zb U<|au U U<|aw U<|zo (s:=56) U (fun c8=>?_) (fun c8=>?_)
   ·refine H U U c8<|H U U c8<|H U U c8<|aA U c8 U<|ah U<|Y<|zf ?_
    repeat (first|refine ad ?_|refine aa ?_)
    refine bt U ?_;exact jb (by simp_all[em,iK,jB,Int.ofNat_inj]<;>grind)
   refine M U U c8<|ao jd U Zu U U<|M U U c8<|aD Y2 U<|M U U c8<|zb (iG _) U<|ay U c8 U<|ah U<|Y<|zf ?_
   repeat (first|refine ad ?_|refine aa ?_)
   refine bt U ?_;exact jb (by simp_all[em,iK,jB,Int.ofNat_inj]<;>grind)
  refine H U U c6<|H U U c6<|H U U c6<|M U U c5<|ay U c6 U<|ay U c5 U<|ah U<|Y<|yl U U<|zc<|Z<|ao jd U Z0 U U<|aD Zb U<|au U U<|aw U<|zo (s:=56) U (fun c9=>?_) (fun c9=>?_)
  ·refine H U U c9<|H U U c9<|H U U c9<|aA U c9 U<|ah U<|Y<|zf ?_
   repeat (first|refine ad ?_|refine aa ?_)
   refine bt U ?_;exact jb (by simp_all[em,iK,jB,Int.ofNat_inj]<;>grind)
  refine M U U c9<|ao jd U Zu U U<|M U U c9<|aD Y2 U<|M U U c9<|zb (iG _) U<|ay U c9 U<|ah U<|Y<|zf ?_
  repeat (first|refine ad ?_|refine aa ?_)
  refine bt U ?_;exact jb (by simp_all[em,iK,jB,Int.ofNat_inj]<;>grind)
 refine H U U c4<|H U U c4<|H U U c4<|H U U c4<|H U U c4<|ay U c4 U<|aw U<|M U U U<|aw U<|M U U U<|aL U<|M U U U<|aw U<|zo (s:=47) U (fun c10=>?_) (fun c10=>?_)
 ·refine M U U c10<|ao jd U j9 U U<|M U U c10<|aD jg U<|M U U c10<|aT U U<|M U U U<|aA U c10 U<|ay U U U<|ah U<|Y<|zq U (fun c11=>?_) (fun c11=>?_)
  ·refine Z<|ah U<|Y<|zf ?_
   repeat (first|refine ad ?_|refine aa ?_)
   refine bt U ?_;exact jb (by simp_all[em,iK,jB,Int.ofNat_inj]<;>grind)
  refine zc<|Z<|ao jd U Z0 U U<|aD Zb U<|au U U<|aw U<|zo (s:=56) U (fun c12=>?_) (fun c12=>?_)
  ·refine H U U c12<|H U U c12<|H U U c12<|aA U c12 U<|ah U<|Y<|zf ?_
   repeat (first|refine ad ?_|refine aa ?_)
   refine bt U ?_;exact jb (by simp_all[em,iK,jB,Int.ofNat_inj]<;>grind)
  refine M U U c12<|ao jd U Zu U U<|M U U c12<|aD Y2 U<|M U U c12<|zb (iG _) U<|ay U c12 U<|ah U<|Y<|zf ?_
  repeat (first|refine ad ?_|refine aa ?_)
  refine bt U ?_;exact jb (by simp_all[em,iK,jB,Int.ofNat_inj]<;>grind)
 refine H U U c10<|H U U c10<|H U U c10<|M U U U<|ay U c10 U<|ay U U U<|ah U<|Y<|yl U U<|zc<|Z<|ao jd U Z0 U U<|aD Zb U<|au U U<|aw U<|zo (s:=56) U (fun c13=>?_) (fun c13=>?_)
 ·refine H U U c13<|H U U c13<|H U U c13<|aA U c13 U<|ah U<|Y<|zf ?_
  repeat (first|refine ad ?_|refine aa ?_)
  refine bt U ?_;exact jb (by simp_all[em,iK,jB,Int.ofNat_inj]<;>grind)
 refine M U U c13<|ao jd U Zu U U<|M U U c13<|aD Y2 U<|M U U c13<|zb (iG _) U<|ay U c13 U<|ah U<|Y<|zf ?_
 repeat (first|refine ad ?_|refine aa ?_)
 refine bt U ?_;exact jb (by simp_all[em,iK,jB,Int.ofNat_inj]<;>grind)
theorem Fw (f:ab) (t:fJ):aS prog E 156 [.agg (bH f),.agg (sy t)] (.bool (bP f t)):=by
 refine zm func156 U (by decide) U<|Z<|zx (cs:=_) U U U<|zx (cs:=_) U U U<|ah U<|Y<|za<|Z<|ao jj U Y5 U U<|aD Yk U<|Y<|zd<|Z<|au U U<|ah U<|Y<|zq U (fun c14=>?_) (fun c14=>?_)
 ·refine Z<|ae Z2 jk U U<|ao jj U Zi U U<|X (yt (j:=0) Z8 j9 U U U (by decide) U)<|aD jg U<|zb (sC _ _) U<|aw U<|zo (s:=14) U (fun c15=>?_) (fun c15=>?_)
  ·refine M U U c15<|ao jj U Zi U U<|M U U c15<|X (yt (j:=1) Z8 j9 U U U (by decide) U)<|M U U c15<|aD jg U<|M U U c15<|au U U<|aA U c15 U<|aw U<|zo (s:=20) U (fun c16=>?_) (fun c16=>?_)
   ·refine M U U c16<|ao jj U j9 U U<|M U U c16<|aD jg U<|M U U c16<|au U U<|aA U c16 U<|ah U<|Y<|zf ?_
    repeat (first|refine ad ?_|refine aa ?_)
    refine bt U ?_;exact jb (by simp_all[bP]<;>grind)
   refine H U U c16<|H U U c16<|H U U c16<|ay U c16 U<|ah U<|Y<|zf ?_
   repeat (first|refine ad ?_|refine aa ?_)
   refine bt U ?_;exact jb (by simp_all[bP]<;>grind)
  refine H U U c15<|H U U c15<|H U U c15<|H U U c15<|ay U c15 U<|aw U<|H U U U<|H U U U<|H U U U<|ay U U U<|ah U<|Y<|zf ?_
  repeat (first|refine ad ?_|refine aa ?_)
  refine bt U ?_;exact jb (by simp_all[bP]<;>grind)
 refine Z<|au U U<|ah U<|Y<|zq U (fun c17=>?_) (fun c17=>?_)
 ·refine Z<|ae Z2 jk U U<|ao jj U j9 U U<|aD jg U<|zb (mP _ _) U<|aw U<|zo (s:=31) U (fun c18=>?_) (fun c18=>?_)
  ·refine M U U c18<|ae Z2 jk U U<|M U U c18<|ao jj U Zi U U<|M U U c18<|X (yt (j:=0) Z8 j9 U U U (by decide) U)<|M U U c18<|aD jg U<|M U U c18<|zb (sC _ _) U<|aA U c18 U<|aw U<|zo (s:=38) U (fun c19=>?_) (fun c19=>?_)
   ·refine M U U c19<|ae Z2 jk U U<|M U U c19<|ao jj U Zi U U<|M U U c19<|X (yt (j:=1) Z8 j9 U U U (by decide) U)<|M U U c19<|aD jg U<|M U U c19<|zb (sC _ _) U<|aA U c19 U<|ah U<|Y<|zf ?_
    repeat (first|refine ad ?_|refine aa ?_)
    refine bt U ?_;exact jb (by simp_all[bP]<;>grind)
   refine H U U c19<|H U U c19<|H U U c19<|H U U c19<|H U U c19<|ay U c19 U<|ah U<|Y<|zf ?_
   repeat (first|refine ad ?_|refine aa ?_)
   refine bt U ?_;exact jb (by simp_all[bP]<;>grind)
  refine H U U c18<|H U U c18<|H U U c18<|H U U c18<|H U U c18<|ay U c18 U<|aw U<|H U U U<|H U U U<|H U U U<|H U U U<|H U U U<|ay U U U<|ah U<|Y<|zf ?_
  repeat (first|refine ad ?_|refine aa ?_)
  refine bt U ?_;exact jb (by simp_all[bP]<;>grind)
 refine Z<|au U U<|ah U<|Y<|zq U (fun c20=>?_) (fun c20=>?_)
 ·refine Z<|ae Z2 jk U U<|ao jj U j9 U U<|aD jg U<|zb (mP _ _) U<|aw U<|zo (s:=51) U (fun c21=>?_) (fun c21=>?_)
  ·refine M U U c21<|ao jj U Zi U U<|M U U c21<|ae isAgg54 Zi U U<|M U U c21<|X (Gv.buildA (cps:=[]) (rs:=[.i 0,.i 0]) N6 U U U)<|M U U c21<|X (Gv.eqlP (xs:=[.int _ _,.int _ _]) (ys:=[.int _ _,.int _ _]) (by kernel_rfl) U U (fun w=>Ad _ _ _ _ w))<|aA U c21 U<|ah U<|Y<|zf ?_
   repeat (first|refine ad ?_|refine aa ?_)
   refine bt U ?_;exact jb (by simp_all[bP]<;>grind)
  refine H U U c21<|H U U c21<|H U U c21<|H U U c21<|ay U c21 U<|ah U<|Y<|zf ?_
  repeat (first|refine ad ?_|refine aa ?_)
  refine bt U ?_;exact jb (by simp_all[bP]<;>grind)
 refine zc<|Z<|ah U<|Y<|zf ?_
 repeat (first|refine ad ?_|refine aa ?_)
 refine bt U ?_;exact jb (by simp_all[bP]<;>grind)
def vy (s:ByteArray):List AV:=[.str s]
end
section
open Go.Proofs.Tryz
open Go.Proofs Go.Lib Go.Shelf Go.RowKit
theorem eU:eS prog 169 #[(0,1),(1,1),(2,1)] [.e,.e,.e]:=⟨_,_,Y8,Xi,fun w=>by kernel_rfl,rfl⟩
theorem HF:dp prog 170 169 27 3 [.e,.e,.e,.e,.e,.e,.e,.e,.e,.e,.e,.e,.e,.e,.e,.e,.e,.e,.e,.e,.e,.e,.e,.e,.e,.e,.e,.e,.e,.e,.e,.e,.e,.e,.e,.e,.e,.e,.e,.e,.e,.e,.e,.e,.e,.e,.e,.e,.e,.e,.e,.e,.e,.e,.e,.e,.e,.e,.e,.e,.e,.e,.e,.e,.e,.e,.e,.e,.e,.e,.e,.e,.e,.e,.e,.e,.e,.e,.e,.e,.e]:=⟨_,Xc,Yz,Xi,by decide,by decide,by kernel_rfl⟩
set_option maxRecDepth 20000
variable {E:World}
def bS (E:World):Prop:=Lib.TabIs prog E "unicode.properties" .u8 Lib.propertiesTab∧RVar 1 letterT E
theorem rB (c:Int) (h1:-2147483648≤c) (h2:c≤2147483647) (hL:bS E):aS prog E 207 [.int .i32 c] (.bool (isLetterU c)):=
 aS.ofBelow (vs:=[.int .i32 c]) (r:=.bool (isLetterU c)) func207 rfl (by decide) rfl fun w hw=>Tryz.unicode_IsLetter_all c w h1 h2 (TabIs_below (g:=0) (by kernel_rfl) hL.1 hw) (RVar_below hL.2 hw)
theorem fv (s:ByteArray) (p:Nat):1≤(Utf8.decode s p).2∧(Utf8.decode s p).1≤2097151:=by
 have h256:∀k,(s.get! k).toNat<256:=fun k=>(s.get! k).toNat_lt;unfold Utf8.decode;dsimp only
 constructor
 ·repeat' split
  all_goals simp
 have h0:=h256 (p+0);have h1:=h256 (p+1);have h2:=h256 (p+2);have h3:=h256 (p+3)
 repeat' split
 all_goals (simp only[Utf8.runeError];omega)
def eo (c:Int) (n:Nat):Bool:=(isLetterU c&&!decide (c=65533))||(!decide ((n:Int)=0)&&((decide (48≤c)&&decide (c≤57))||decide (c=46)||decide (c=95)))
def fP (s:ByteArray) (p n:Nat):Bool:=
 if h:p<s.size then (if eo (Utf8.decode s p).1 n then fP s (p+(Utf8.decode s p).2) (n+1) else false) else decide ((1:Int)≤n)&&decide ((n:Int)≤16)
termination_by s.size - p
decreasing_by have:=(fv s p).1;omega
def mY (s:ByteArray):Bool:=fP s 0 0
theorem wx (s:ByteArray) (hs:s.size≤140737488355328) (hL:bS E):aS prog E 175 [.str s] (.bool (mY s)):=by
 refine zm func175 U (by decide) U<|Z<|ah U<|Y<|Z<|ap U<|Y<|za<|Z<|X (yn (v:=.str _) U)<|ax.rangeT Zy U<|fun i8=>Y<|zd<|zu (γ:=Nat × Nat) [8] (fun g=>[(3,.i g.2)]) (fun g=>[(i8,.iter s g.1)]) (fun g=>fP s g.1 g.2=mY s∧g.2≤g.1∧g.2≤s.size) (fun g=>s.size - g.1) (0,0) aN aJ (⟨U,Nat.le_refl _,qw _⟩) ?_;rintro ⟨p,n⟩ ⟨hp,hn,hn2⟩;try dsimp only at *
 by_cases hlt:p<s.size
 ·obtain ⟨hd1,hd2⟩:=fv s p;have hstep:=hp;rw[fP,dif_pos hlt] at hstep;refine Z<|ax.nextT U .head hlt<|X (Cm U U)<|Y<|za<|ym U U<|zc<|zd<|Z<|X (nU U U)<|ap U<|Y<|Z<|C U<|zb (rB _ (by omega) (by omega) hL) U<|aw U<|zo (s:=14) U (fun c1=>?_) (fun c1=>?_)
  ·refine M U U c1<|C U<|M U U c1<|aT U U<|aA U c1 U<|ah U<|Y<|za<|Z<|aw U<|aL U<|aw U<|zo (s:=20) U (fun c2=>?_) (fun c2=>?_)
   ·refine M U U c2<|C U<|M U U c2<|au U U<|M U U c2<|aw U<|zo (s:=23) U (fun c3=>?_) (fun c3=>?_)
    ·refine H U U c3<|H U U c3<|H U U c3<|zg U U<|zg U U<|H U U c3<|H U U c3<|H U U c3<|zg U U<|zg U U<|H U U c3<|H U U c3<|zg U U<|zg U U<|H U U c3<|M U U c2<|aA U c3 U<|aA U c2 U<|Y<|ym U U<|Z<|ah U<|Y<|zf ?_
     repeat (first|refine ad ?_|refine aa ?_)
     refine bt U ?_;rw[if_neg (by simp_all[eo]<;>omega)] at hstep;exact jb hstep
    refine M U U c3<|C U<|M U U c3<|X (q7 U U)<|M U U c3<|aw U<|zo (s:=26) U (fun c4=>?_) (fun c4=>?_)
    ·refine M U U c4<|C U<|M U U c4<|X (Gv.leq U U)<|M U U c3<|aA U c4 U<|M U U c3<|aL U<|M U U c3<|aw U<|zo (s:=31) U (fun c5=>?_) (fun c5=>?_)
     ·refine M U U c5<|C U<|M U U c5<|aT U U<|M U U c3<|aA U c5 U<|M U U c3<|aw U<|zo (s:=35) U (fun c6=>?_) (fun c6=>?_)
      ·refine M U U c6<|C U<|M U U c6<|aT U U<|M U U c3<|aA U c6 U<|M U U c2<|ay U c3 U<|aA U c2 U<|Y<|zq U (fun c7=>?_) (fun c7=>?_)
       ·refine Z<|ah U<|Y<|zf ?_
        repeat (first|refine ad ?_|refine aa ?_)
        refine bt U ?_;rw[if_neg (by simp_all[eo]<;>omega)] at hstep;exact jb hstep
       refine zc<|bZ<|C U<|X (ky U U)<|ap U<|Y ?_;exact ⟨(p+(Utf8.decode s p).2,n+1),aN,aN,aJ,⟨by rw[if_pos (by simp_all[eo]<;>omega)] at hstep;exact hstep,by dsimp only;omega,by dsimp only;omega⟩,by dsimp only;omega⟩
      refine H U U c6<|H U U c6<|M U U c3<|ay U c6 U<|M U U c2<|ay U c3 U<|aA U c2 U<|Y<|yl U U<|zc<|bZ<|C U<|X (ky U U)<|ap U<|Y ?_;exact ⟨(p+(Utf8.decode s p).2,n+1),aN,aN,aJ,⟨by rw[if_pos (by simp_all[eo]<;>omega)] at hstep;exact hstep,by dsimp only;omega,by dsimp only;omega⟩,by dsimp only;omega⟩
     refine H U U c5<|H U U c5<|M U U c3<|ay U c5 U<|M U U c3<|aw U<|H U U U<|H U U U<|M U U c3<|ay U U U<|M U U c2<|ay U c3 U<|aA U c2 U<|Y<|yl U U<|zc<|bZ<|C U<|X (ky U U)<|ap U<|Y ?_;exact ⟨(p+(Utf8.decode s p).2,n+1),aN,aN,aJ,⟨by rw[if_pos (by simp_all[eo]<;>omega)] at hstep;exact hstep,by dsimp only;omega,by dsimp only;omega⟩,by dsimp only;omega⟩
    refine H U U c4<|H U U c4<|M U U c3<|ay U c4 U<|M U U c3<|aL U<|M U U c3<|aw U<|M U U U<|C U<|M U U U<|aT U U<|M U U c3<|aA U U U<|M U U c3<|aw U<|zo (s:=35) U (fun c8=>?_) (fun c8=>?_)
    ·refine M U U c8<|C U<|M U U c8<|aT U U<|M U U c3<|aA U c8 U<|M U U c2<|ay U c3 U<|aA U c2 U<|Y<|zq U (fun c9=>?_) (fun c9=>?_)
     ·refine Z<|ah U<|Y<|zf ?_
      repeat (first|refine ad ?_|refine aa ?_)
      refine bt U ?_;rw[if_neg (by simp_all[eo]<;>omega)] at hstep;exact jb hstep
     refine zc<|bZ<|C U<|X (ky U U)<|ap U<|Y ?_;exact ⟨(p+(Utf8.decode s p).2,n+1),aN,aN,aJ,⟨by rw[if_pos (by simp_all[eo]<;>omega)] at hstep;exact hstep,by dsimp only;omega,by dsimp only;omega⟩,by dsimp only;omega⟩
    refine H U U c8<|H U U c8<|M U U c3<|ay U c8 U<|M U U c2<|ay U c3 U<|aA U c2 U<|Y<|yl U U<|zc<|bZ<|C U<|X (ky U U)<|ap U<|Y ?_;exact ⟨(p+(Utf8.decode s p).2,n+1),aN,aN,aJ,⟨by rw[if_pos (by simp_all[eo]<;>omega)] at hstep;exact hstep,by dsimp only;omega,by dsimp only;omega⟩,by dsimp only;omega⟩
   refine H U U c2<|H U U c2<|H U U c2<|zg U U<|zg U U<|zg U U<|zg U U<|zg U U<|zg U U<|zg U U<|zg U U<|zg U U<|zg U U<|zg U U<|zg U U<|zg U U<|zg U U<|zg U U<|H U U c2<|ay U c2 U<|Y<|yl U U<|zc<|bZ<|C U<|X (ky U U)<|ap U<|Y ?_;exact ⟨(p+(Utf8.decode s p).2,n+1),aN,aN,aJ,⟨by rw[if_pos (by simp_all[eo]<;>omega)] at hstep;exact hstep,by dsimp only;omega,by dsimp only;omega⟩,by dsimp only;omega⟩
  refine H U U c1<|H U U c1<|ay U c1 U<|ah U<|Y<|za<|Z<|aw U<|aL U<|aw U<|M U U U<|C U<|M U U U<|au U U<|M U U U<|aw U<|zo (s:=23) U (fun c10=>?_) (fun c10=>?_)
  ·refine H U U c10<|H U U c10<|H U U c10<|zg U U<|zg U U<|H U U c10<|H U U c10<|H U U c10<|zg U U<|zg U U<|H U U c10<|H U U c10<|zg U U<|zg U U<|H U U c10<|M U U U<|aA U c10 U<|aA U U U<|Y<|ym U U<|Z<|ah U<|Y<|zf ?_
   repeat (first|refine ad ?_|refine aa ?_)
   refine bt U ?_;rw[if_neg (by simp_all[eo]<;>omega)] at hstep;exact jb hstep
  refine M U U c10<|C U<|M U U c10<|X (q7 U U)<|M U U c10<|aw U<|zo (s:=26) U (fun c11=>?_) (fun c11=>?_)
  ·refine M U U c11<|C U<|M U U c11<|X (Gv.leq U U)<|M U U c10<|aA U c11 U<|M U U c10<|aL U<|M U U c10<|aw U<|zo (s:=31) U (fun c12=>?_) (fun c12=>?_)
   ·refine M U U c12<|C U<|M U U c12<|aT U U<|M U U c10<|aA U c12 U<|M U U c10<|aw U<|zo (s:=35) U (fun c13=>?_) (fun c13=>?_)
    ·refine M U U c13<|C U<|M U U c13<|aT U U<|M U U c10<|aA U c13 U<|M U U U<|ay U c10 U<|aA U U U<|Y<|zq U (fun c14=>?_) (fun c14=>?_)
     ·refine Z<|ah U<|Y<|zf ?_
      repeat (first|refine ad ?_|refine aa ?_)
      refine bt U ?_;rw[if_neg (by simp_all[eo]<;>omega)] at hstep;exact jb hstep
     refine zc<|bZ<|C U<|X (ky U U)<|ap U<|Y ?_;exact ⟨(p+(Utf8.decode s p).2,n+1),aN,aN,aJ,⟨by rw[if_pos (by simp_all[eo]<;>omega)] at hstep;exact hstep,by dsimp only;omega,by dsimp only;omega⟩,by dsimp only;omega⟩
    refine H U U c13<|H U U c13<|M U U c10<|ay U c13 U<|M U U U<|ay U c10 U<|aA U U U<|Y<|yl U U<|zc<|bZ<|C U<|X (ky U U)<|ap U<|Y ?_;exact ⟨(p+(Utf8.decode s p).2,n+1),aN,aN,aJ,⟨by rw[if_pos (by simp_all[eo]<;>omega)] at hstep;exact hstep,by dsimp only;omega,by dsimp only;omega⟩,by dsimp only;omega⟩
   refine H U U c12<|H U U c12<|M U U c10<|ay U c12 U<|M U U c10<|aw U<|H U U U<|H U U U<|M U U c10<|ay U U U<|M U U U<|ay U c10 U<|aA U U U<|Y<|yl U U<|zc<|bZ<|C U<|X (ky U U)<|ap U<|Y ?_;exact ⟨(p+(Utf8.decode s p).2,n+1),aN,aN,aJ,⟨by rw[if_pos (by simp_all[eo]<;>omega)] at hstep;exact hstep,by dsimp only;omega,by dsimp only;omega⟩,by dsimp only;omega⟩
  refine H U U c11<|H U U c11<|M U U c10<|ay U c11 U<|M U U c10<|aL U<|M U U c10<|aw U<|M U U U<|C U<|M U U U<|aT U U<|M U U c10<|aA U U U<|M U U c10<|aw U<|zo (s:=35) U (fun c15=>?_) (fun c15=>?_)
  ·refine M U U c15<|C U<|M U U c15<|aT U U<|M U U c10<|aA U c15 U<|M U U U<|ay U c10 U<|aA U U U<|Y<|zq U (fun c16=>?_) (fun c16=>?_)
   ·refine Z<|ah U<|Y<|zf ?_
    repeat (first|refine ad ?_|refine aa ?_)
    refine bt U ?_;rw[if_neg (by simp_all[eo]<;>omega)] at hstep;exact jb hstep
   refine zc<|bZ<|C U<|X (ky U U)<|ap U<|Y ?_;exact ⟨(p+(Utf8.decode s p).2,n+1),aN,aN,aJ,⟨by rw[if_pos (by simp_all[eo]<;>omega)] at hstep;exact hstep,by dsimp only;omega,by dsimp only;omega⟩,by dsimp only;omega⟩
  refine H U U c15<|H U U c15<|M U U c10<|ay U c15 U<|M U U U<|ay U c10 U<|aA U U U<|Y<|yl U U<|zc<|bZ<|C U<|X (ky U U)<|ap U<|Y ?_;exact ⟨(p+(Utf8.decode s p).2,n+1),aN,aN,aJ,⟨by rw[if_pos (by simp_all[eo]<;>omega)] at hstep;exact hstep,by dsimp only;omega,by dsimp only;omega⟩,by dsimp only;omega⟩
 rw[fP,dif_neg hlt] at hp;refine Z<|ax.nextTover U .head hlt<|X (Cm U U)<|Y<|za<|yl U U<|zt<|Z<|C U<|X (q7 U U)<|aw U<|zo (s:=45) U (fun c17=>?_) (fun c17=>?_)
 ·refine M U U c17<|C U<|M U U c17<|X (Gv.leq U U)<|aA U c17 U<|ah U<|Y<|zf ?_
  repeat (first|refine ad ?_|refine aa ?_)
  refine bt U ?_;rw[←hp];exact jb (by simp_all<;>(intros;omega))
 refine H U U c17<|H U U c17<|ay U c17 U<|ah U<|Y<|zf ?_
 repeat (first|refine ad ?_|refine aa ?_)
 refine bt U ?_;rw[←hp];exact jb (by simp_all<;>(intros;omega))
theorem lm:aS prog E 93 [] (.fro 3 (iJ.map vu)):=by
 refine zm func93 U (by decide) U<|Z<|X (kT U)<|Y<|Z<|X (y5 (cps:=[(0,[_]),(1,[_]),(2,[_])]) (rs:=[_,_,_]) eU U U U)<|X (y5 (cps:=[(0,[_]),(1,[_]),(2,[_])]) (rs:=[_,_,_]) eU U U U)<|X (y5 (cps:=[(0,[_]),(1,[_]),(2,[_])]) (rs:=[_,_,_]) eU U U U)<|X (y5 (cps:=[(0,[_]),(1,[_]),(2,[_])]) (rs:=[_,_,_]) eU U U U)<|X (y5 (cps:=[(0,[_]),(1,[_]),(2,[_])]) (rs:=[_,_,_]) eU U U U)<|X (y5 (cps:=[(0,[_]),(1,[_]),(2,[_])]) (rs:=[_,_,_]) eU U U U)<|X (y5 (cps:=[(0,[_]),(1,[_]),(2,[_])]) (rs:=[_,_,_]) eU U U U)<|X (y5 (cps:=[(0,[_]),(1,[_]),(2,[_])]) (rs:=[_,_,_]) eU U U U)<|X (y5 (cps:=[(0,[_]),(1,[_]),(2,[_])]) (rs:=[_,_,_]) eU U U U)<|X (y5 (cps:=[(0,[_]),(1,[_]),(2,[_])]) (rs:=[_,_,_]) eU U U U)<|X (y5 (cps:=[(0,[_]),(1,[_]),(2,[_])]) (rs:=[_,_,_]) eU U U U)<|X (y5 (cps:=[(0,[_]),(1,[_]),(2,[_])]) (rs:=[_,_,_]) eU U U U)<|X (y5 (cps:=[(0,[_]),(1,[_]),(2,[_])]) (rs:=[_,_,_]) eU U U U)<|X (y5 (cps:=[(0,[_]),(1,[_]),(2,[_])]) (rs:=[_,_,_]) eU U U U)<|X (y5 (cps:=[(0,[_]),(1,[_]),(2,[_])]) (rs:=[_,_,_]) eU U U U)<|X (y5 (cps:=[(0,[_]),(1,[_]),(2,[_])]) (rs:=[_,_,_]) eU U U U)<|X (y5 (cps:=[(0,[_]),(1,[_]),(2,[_])]) (rs:=[_,_,_]) eU U U U)<|X (y5 (cps:=[(0,[_]),(1,[_]),(2,[_])]) (rs:=[_,_,_]) eU U U U)<|X (y5 (cps:=[(0,[_]),(1,[_]),(2,[_])]) (rs:=[_,_,_]) eU U U U)<|X (y5 (cps:=[(0,[_]),(1,[_]),(2,[_])]) (rs:=[_,_,_]) eU U U U)<|X (y5 (cps:=[(0,[_]),(1,[_]),(2,[_])]) (rs:=[_,_,_]) eU U U U)<|X (y5 (cps:=[(0,[_]),(1,[_]),(2,[_])]) (rs:=[_,_,_]) eU U U U)<|X (y5 (cps:=[(0,[_]),(1,[_]),(2,[_])]) (rs:=[_,_,_]) eU U U U)<|X (y5 (cps:=[(0,[_]),(1,[_]),(2,[_])]) (rs:=[_,_,_]) eU U U U)<|X (y5 (cps:=[(0,[_]),(1,[_]),(2,[_])]) (rs:=[_,_,_]) eU U U U)<|X (y5 (cps:=[(0,[_]),(1,[_]),(2,[_])]) (rs:=[_,_,_]) eU U U U)<|X (y5 (cps:=[(0,[_]),(1,[_]),(2,[_])]) (rs:=[_,_,_]) eU U U U)<|zw (rows:=[[_,_,_],[_,_,_],[_,_,_],[_,_,_],[_,_,_],[_,_,_],[_,_,_],[_,_,_],[_,_,_],[_,_,_],[_,_,_],[_,_,_],[_,_,_],[_,_,_],[_,_,_],[_,_,_],[_,_,_],[_,_,_],[_,_,_],[_,_,_],[_,_,_],[_,_,_],[_,_,_],[_,_,_],[_,_,_],[_,_,_],[_,_,_]]) HF U U U U U<|X (oU U)<|Y<|zf<|yz (x:=.fro _ _) U ?_
 rfl
theorem iI (k n:Int):aS prog E 176 [.i k,.i n] (.bool (decide (0≤k)&&decide (k<n))):=by
 refine zm func176 U (by decide) U<|Z<|ah U<|Y<|Z<|C U<|X (q7 U U)<|aw U<|zo (s:=7) U (fun c18=>?_) (fun c18=>?_)
 ·refine M U U c18<|C U<|M U U c18<|C U<|M U U c18<|aq U U<|aA U c18 U<|ah U<|Y<|zf ?_
  repeat (first|refine ad ?_|refine aa ?_)
  refine bt U ?_;exact jb (by simp_all<;>omega)
 refine H U U c18<|H U U c18<|H U U c18<|ay U c18 U<|ah U<|Y<|zf ?_
 repeat (first|refine ad ?_|refine aa ?_)
 refine bt U ?_;exact jb (by simp_all<;>omega)
def qH (l:List UInt8):ByteArray:=⟨l.toArray⟩
theorem Ae (a b:List UInt8):qH a++qH b=qH (a++b):=by
 apply ByteArray.ext;simp[qH,ByteArray.data_append]
theorem qI (a:List UInt8):(qH a).size=a.length:=by show (List.toArray a).size=_;simp
def LZ (y:Nat) (acc:List UInt8):List UInt8:=if y=0 then acc else decDigits y++acc
theorem Af {y:Nat} (acc:List UInt8) (h:0<y):LZ (y / 10) (UInt8.ofNat (48+y % 10)::acc)=LZ y acc:=by
 unfold LZ;rw[if_neg (by omega:¬y=0)];split
 ·rename_i h0;rw[decDigits,dif_pos (by omega),Nat.mod_eq_of_lt (by omega)];rfl
 rename_i h0;rw[decDigits.eq_1 y,dif_neg (by omega)];simp
theorem Fx (x:Nat):LZ (x / 10) [UInt8.ofNat (48+x % 10)]=decDigits x:=by
 by_cases h:x=0
 ·subst h;rw[decDigits,dif_pos (by omega)];rfl
 rw[Af [] (by omega)];unfold LZ;rw[if_neg h];simp
theorem Ag (x:Nat) (h:x<18446744073709551616):(decDigits x).length≤40:=by
 have:∀(k y:Nat),y<10 ^ (k+1)→(decDigits y).length≤k+1:=by
  intro k;induction k with
  |zero=>intro y hy;rw[decDigits,dif_pos (by simpa using hy)];simp
  |succ k ih=>
   intro y hy;rw[decDigits];split
   ·simp
   rw[qz];have:=ih (y / 10) (by rw[Nat.pow_succ] at hy;omega);simp;omega
 exact this 39 x (by omega)
end
end Go.Proofs.YtbbonnfjealmpaaGreatDoor
