/- Numbers of 16 and of 64 bits, as a call is handed them. No conditions. -/
import Derived.Test.YtbconpmnckokoaaGreatDoorZp
import Derived.Test.YtbconpmnckokoaaGreatDoorZb
import Derived.Test.YtbconpmnckokoaaGreatDoorZc
import Derived.Test.YtbconpmnckokoaaGreatDoorZe
import Derived.Test.YtbconpmnckokoaaGreatDoorZf
import Derived.Test.YtbconpmnckokoaaGreatDoorZh
import Derived.Test.YtbconpmnckokoaaGreatDoorZm
import Derived.Test.YtbconpmnckokoaaGreatDoorZg
import Derived.Handed
import Derived.Test.YtbconpmnckokoaaGreatDoorRows
import Derived.Test.YtbconpmnckokoaaGreatDoorChecked
import Derived.ProofKit
import Derived.JoinedOf
import Derived.Test.YtbconpmnckokoaaGreatDoorZl
set_option linter.unusedVariables false
set_option linter.unusedSimpArgs false
set_option linter.unusedSectionVars false
namespace Go.Proofs.YtbconpmnckokoaaGreatDoor
section
open Go.Proofs.Tryz
open Go.Proofs
mutual
def EV.ren (ρ:Nat→Nat):EV→EV
 |.u=>.u
 |.b x=>.b x
 |.i kd n=>.i kd n
 |.s x=>.s x
 |.np=>.np
 |.p kb off=>.p (ρ kb) off
 |.ns=>.ns
 |.sl kb off len sz c=>.sl (ρ kb) off len sz c
 |.ag l=>.ag (EV.renL ρ l)
 |.tu l=>.tu (EV.renL ρ l)
 |.fn fi a1 c1=>.fn fi (EV.renL ρ a1) (EV.renL ρ c1)
 |.nf=>.nf
 |.ifc ty v=>.ifc ty (EV.ren ρ v)
 |.ni=>.ni
 |.m kb=>.m (ρ kb)
 |.nm=>.nm
 |.vr kb=>.vr (ρ kb)
 |.us lo hi=>.us lo hi
def EV.renL (ρ:Nat→Nat):List EV→List EV
 |[]=>[]
 |x::l=>EV.ren ρ x::EV.renL ρ l
end
mutual
def EV.okN (pr:Nat→Bool):EV→Bool
 |.p kb _=>pr kb
 |.sl kb _ _ _ _=>pr kb
 |.ag l=>EV.okNL pr l
 |.tu l=>EV.okNL pr l
 |.fn _ a1 c1=>EV.okNL pr a1&&EV.okNL pr c1
 |.ifc _ v=>EV.okN pr v
 |.m kb=>pr kb
 |.u=>true
 |.b _=>true
 |.i _ _=>true
 |.s _=>true
 |.np=>true
 |.ns=>true
 |.nf=>true
 |.ni=>true
 |.nm=>true
 |.vr kb=>pr kb
 |.us _ _=>true
def EV.okNL (pr:Nat→Bool):List EV→Bool
 |[]=>true
 |x::l=>EV.okN pr x&&EV.okNL pr l
end
section
variable {φ ψ:bV} {ρ:Nat→Nat} {p:Nat→Bool}
mutual
theorem aQ.ren (h:∀b q,p b=true→ψ b=some q→φ (ρ b)=some q):∀(x:EV) (v:Value),x.okN p=true→aQ ψ x v→aQ φ (x.ren ρ) v
 |.u,_,_,_=>trivial
 |.b _,_,_,e=>e
 |.i _ _,_,_,e=>e
 |.s _,_,_,e=>e
 |.np,_,_,e=>e
 |.p _ _,_,k,⟨q,a,e⟩=>⟨q,h _ _ k a,e⟩
 |.ns,_,_,e=>e
 |.sl _ _ _ _ _,_,k,⟨q,o,cap,a,e⟩=>⟨q,o,cap,h _ _ k a,e⟩
 |.ag l,_,k,⟨vs,e,k1⟩=>⟨vs,e,RelVs.ren h l vs k k1⟩
 |.tu l,_,k,⟨vs,e,k1⟩=>⟨vs,e,RelVs.ren h l vs k k1⟩
 |.fn _ a c,_,k,⟨vs,us,e,k1,k2⟩=>⟨vs,us,e,RelVs.ren h a vs ((qz _ _).mp k).1 k1,RelVs.ren h c us ((qz _ _).mp k).2 k2⟩
 |.nf,_,_,e=>e
 |.ifc _ x,_,k,⟨u,e,k1⟩=>⟨u,e,aQ.ren h x u k k1⟩
 |.ni,_,_,e=>e
 |.m _,_,k,⟨q,a,e⟩=>⟨q,h _ _ k a,e⟩
 |.nm,_,_,e=>e
 |.vr _,_,k,⟨q,a,e⟩=>⟨q,h _ _ k a,e⟩
 |.us _ _,_,_,e=>e
theorem RelVs.ren (h:∀b q,p b=true→ψ b=some q→φ (ρ b)=some q):∀(x:List EV) (v:List Value),EV.okNL p x=true→RelVs ψ x v→RelVs φ (EV.renL ρ x) v
 |[],_,_,e=>e
 |x::xs,_,k,⟨v,us,e,h1,h2⟩=>⟨v,us,e,aQ.ren h x v ((qz _ _).mp k).1 h1,RelVs.ren h xs us ((qz _ _).mp k).2 h2⟩
end
end
section
variable {I J:aJ} {φ ψ:bV} {H:Hp} {nx:Nat} {F:List (Nat × Obj)} {E w:World} {k:Nat}
theorem cy.frz1 (h:cy I φ H nx F E w) {cs:List EV} (hk:(H.get k).bind VO.cs?=some cs):∃J,I.le J∧eG J φ k (.kn cs) []∧cy J φ (H.set k (some (.kn cs))) nx F E w:=by
 obtain ⟨o,ho,hc⟩:=Option.bind_eq_some_iff.1 hk
 obtain ⟨A,L,hb,hr,hS⟩:=h.pick ho
 cases o with
 |cells ex cs'=>
  cases hc
  obtain ⟨q,T,vs,junk,h1,h2,h3,h4,h5,h6,rfl⟩:=hb
  obtain ⟨J,j1,j2,j3⟩:=SL.freezeAllN hS
  have hj:=j3 (q.r,.cells (vs++junk).toArray T (0,0)) (.head _)
  have hB:eG J φ k (.kn cs) []:=⟨q,vs,h1,h3,fun u hu=>h4 u (List.mem_append_left _ hu),fun j u hu=>⟨_,T,(0,0),hj,by
   have hl:=(List.getElem?_eq_some_iff.1 hu).1
   rw[h2,Nat.zero_add,List.getElem?_toArray,List.getElem?_append_left hl];exact hu⟩,rfl⟩
  exact ⟨J,j1,hB,qe (A:=[]) (hr.mono j1 (.refl _)) hB j2 h.top⟩
 |kn cs'=>
  cases hc
  have hb':=hb
  obtain ⟨q,vs,h1,h3,h4,h5,rfl⟩:=hb
  exact ⟨I,.refl _,⟨q,vs,h1,h3,h4,h5,rfl⟩,qe (A:=[]) hr ⟨q,vs,h1,h3,h4,h5,rfl⟩ hS h.top⟩
 |it s p=>cases hc
 |mp es=>cases hc
noncomputable def jV:List (Nat × List EV)→Hp→Hp
 |[],H=>H
 |q::l,H=>jV l (H.set q.1 (some (.kn q.2)))
theorem cy.frzL:∀(l:List (Nat × List EV)) {I:aJ} {H:Hp},cy I φ H nx F E w→(∀q∈l,(H.get q.1).bind VO.cs?=some q.2)→∃J,I.le J∧(∀q∈l,eG J φ q.1 (.kn q.2) [])∧cy J φ (jV l H) nx F E w
 |[],I,H,h,_=>⟨I,.refl _,(fun _ hq=>nomatch hq),h⟩
 |q::l,I,H,h,hk=>by
  obtain ⟨J,j1,j2,j3⟩:=h.frz1 (hk q (.head _))
  obtain ⟨K,k1,k2,k3⟩:=cy.frzL l j3 fun r hr=>by
   rw[Tr.get_set]
   by_cases e:r.1=q.1
   ·rw[if_pos e]
    have h1:=hk q (.head _)
    have h2:=hk r (.tail _ hr)
    rw[e,h1] at h2
    exact h2
   ·rw[if_neg e];exact hk r (.tail _ hr)
  refine ⟨K,j1.trans k1,fun r hr=>?_,k3⟩
  rcases List.mem_cons.1 hr with rfl|hr
  ·exact eG.mono k1 (.refl _) j2
  ·exact k2 r hr
theorem cy.addK (h:cy I φ H nx F E w) {cs:List EV} (hk:H.get k=none) (hb:eG I φ k (.kn cs) []):cy I φ (H.set k (some (.kn cs))) nx F E w:=by
 obtain ⟨ht,M,L,hn,hm,hr,hS⟩:=h
 refine ⟨ht,(k,.kn cs)::M,L,?_,fun j o=>?_,⟨[],L,Z,hb,hr⟩,hS⟩
 ·rw[List.map_cons,List.nodup_cons]
  refine ⟨fun hm2=>?_,hn⟩
  obtain ⟨x,hx,e⟩:=List.mem_map.1 hm2
  have e:x.1=k:=e
  have:=(hm x.1 x.2).1 hx
  rw[e,hk] at this;cases this
 ·rw[Tr.get_set,List.mem_cons,hm j o]
  by_cases e:j=k
  ·rw[if_pos e];subst e;rw[hk];simp[eq_comm]
  ·rw[if_neg e];simp[e]
end
structure aM where
 f:Nat
 ar:List EV
 hin:List (Nat × List EV)
 x:EV
 hout:List (Nat × List EV)
 base:Nat
noncomputable def Dk (l:List (Nat × List EV)):Hp:=jV l .lf
def aA (P:Program) (E:World) (m:aM):Prop:=∀φ I F w vs,(∀q∈m.hin,eG I φ q.1 (.kn q.2) [])→RelVs φ m.ar vs→SL I F E w→(∀j,m.base≤j→φ j=none) →
 Go.Proofs.YtbconpmnckokoaaGreatDoor.Fn P m.f vs.toArray w (fun v w'=>∃J ψ,I.le J∧(∀j,j<m.base→ψ j=φ j)∧aQ ψ m.x v∧(∀q∈m.hout,eG J ψ q.1 (.kn q.2) [])∧SL J F E w')
noncomputable def rQ (x y:List EV):Bool:=eO.eqL 2000 x y
noncomputable def xE (H:Hp) (q:Nat × List EV):Bool:=match (H.get q.1).bind VO.cs? with
 |some cs=>rQ cs q.2
 |none=>false
theorem rR {H:Hp} {q:Nat × List EV} (h:xE H q=true):(H.get q.1).bind VO.cs?=some q.2:=by
 unfold xE at h
 split at h
 ·rename_i cs hc
  rw[hc,(lR 2000).2 cs q.2 h]
 ·cases h
theorem nO:∀(l:List (Nat × List EV)) (H:Hp) (j:Nat) (o:VO),(l.map (·.1)).Nodup→(∀q∈l,H.get q.1=none)→((jV l H).get j=some o↔(∃cs,(j,cs)∈l∧o=.kn cs)∨H.get j=some o)
 |[],H,j,o,_,_=>by simp[jV]
 |q::l,H,j,o,hn,hh=>by
  rw[List.map_cons,List.nodup_cons] at hn
  have hq:=hh q (.head _)
  have ih:=nO l (H.set q.1 (some (.kn q.2))) j o hn.2 fun r hr=>by
   have hne:¬r.1=q.1:=fun e=>hn.1 (List.mem_map.2 ⟨r,hr,e⟩)
   rw[Tr.get_set,if_neg hne]
   exact hh r (.tail _ hr)
  show (jV l (H.set q.1 (some (.kn q.2)))).get j=some o↔_
  rw[ih,Tr.get_set]
  by_cases e:j=q.1
  ·rw[if_pos e]
   constructor
   ·rintro (⟨cs,h1,h2⟩|h)
    ·exact .inl ⟨cs,.tail _ h1,h2⟩
    ·cases h;exact .inl ⟨q.2,by rw[e];exact .head _,rfl⟩
   ·rintro (⟨cs,h1,h2⟩|h)
    ·rcases List.mem_cons.1 h1 with h3|h3
     ·exact .inr (by rw[h2,←h3])
     ·exact .inl ⟨cs,h3,h2⟩
    ·rw[e,hq] at h;cases h
  ·rw[if_neg e]
   constructor
   ·rintro (⟨cs,h1,h2⟩|h)
    ·exact .inl ⟨cs,.tail _ h1,h2⟩
    ·exact .inr h
   ·rintro (⟨cs,h1,h2⟩|h)
    ·rcases List.mem_cons.1 h1 with h3|h3
     ·exact absurd (by rw[←h3]) e
     ·exact .inl ⟨cs,h3,h2⟩
    ·exact .inr h
def qB:List Nat→Bool
 |[]=>true
 |x::l=>!jU x l&&qB l
theorem kF:∀{l:List Nat},qB l=true→l.Nodup
 |[],_=>List.nodup_nil
 |x::l,h=>by
  unfold qB at h
  simp only[qz,Bool.not_eq_true',Bool.eq_false_iff] at h
  rw[List.nodup_cons]
  exact ⟨fun hm=>h.1 (eN.2 hm),kF h.2⟩
noncomputable def Ed (call:bL) (m:aM):Bool:=
 qB (m.hin.map (·.1))&&match call m.f m.ar (Dk m.hin) m.base with
  |some (x,H',_)=>rQ [x] [m.x]&&m.hout.all (xE H')
  |none=>false
section
variable {P:Program} {E:World}
theorem aB {call:bL} (hC:cf P E call) {m:aM} (h:Ed call m=true):aA P E m:=fun φ I F w vs hin hr hS ht=>by
 unfold Ed at h
 rw[qz] at h
 obtain ⟨h1,h⟩:=h
 split at h
 ·rename_i x H' nx' hc
  rw[qz,List.all_eq_true] at h
  have hx:x=m.x:=by have:=(lR 2000).2 _ _ h.1;simpa using this
  subst hx
  have hnd:=kF h1
  have hR:cy I φ (Dk m.hin) m.base F E w:=by
   refine ⟨ht,m.hin.map fun q=>(q.1,.kn q.2),[],?_,fun j o=>?_,?_,hS⟩
   ·rw[List.map_map];exact hnd
   ·rw[show Dk m.hin=jV m.hin .lf from rfl,nO m.hin .lf j o hnd fun _ _=>Tr.get_lf _,Tr.get_lf,List.mem_map]
    constructor
    ·rintro ⟨q,hq,e⟩
     cases e
     exact .inl ⟨q.2,hq,rfl⟩
    ·rintro (⟨cs,h1,rfl⟩|h)
     ·exact ⟨(j,cs),h1,rfl⟩
     ·cases h
   ·generalize m.hin=l at hin
    clear h1 hnd hc h hr
    induction l with
    |nil=>rfl
    |cons q l ih=>exact ⟨[],[],rfl,hin q (.head _),ih fun r hr=>hin r (.tail _ hr)⟩
  refine (hC _ _ _ _ _ _ _ hc φ I F w vs hR hr).mono fun v w' ⟨J,ψ,a,b,c,d,e,f⟩=>?_
  obtain ⟨K,k1,k2,k3⟩:=cy.frzL m.hout f fun q hq=>rR (h.2 q hq)
  exact ⟨K,ψ,a.trans k1,fun j hj=>c j hj (Nat.ne_of_lt hj),e,k2,k3.sl⟩
 ·cases h
end
def qC (k:Nat):List (Nat × List EV)→Nat→Nat
 |[],i=>i
 |q::l,i=>bif Nat.beq q.1 k then i else qC k l (i+1)
def vU (m:aM) (nx:Nat) (k:Nat):Nat:=bif Nat.blt k m.base then k else nx+qC k m.hout 0
def B7 (m:aM) (k:Nat):Bool:=Nat.blt k m.base||jU k (m.hout.map (·.1))
noncomputable def C1 (ρ:Nat→Nat):List (Nat × List EV)→Nat→Hp→Hp
 |[],_,H=>H
 |q::l,k,H=>C1 ρ l (k+1) (H.set k (some (.kn (EV.renL ρ q.2))))
noncomputable def C2 (m:aM):bL:=fun f ar H nx=>
 bif Nat.beq f m.f&&(Nat.ble nx m.base&&rQ ar m.ar)&&m.hin.all (xE H) then
  bif m.x.okN (B7 m)&&m.hout.all (fun q=>EV.okNL (B7 m) q.2&&Nat.ble m.base q.1)&&qB (m.hout.map (·.1)) then
   some (m.x.ren (vU m nx),C1 (vU m nx) m.hout nx (jV m.hin H),nx+m.hout.length)
  else none
 else none
theorem nP:∀(l:List (Nat × List EV)) (i j:Nat) (q:Nat × List EV),(l.map (·.1)).Nodup→l[j]?=some q→qC q.1 l i=i+j
 |[],_,_,_,_,h=>by simp at h
 |r::l,i,0,q,_,h=>by
  simp at h;subst h
  unfold qC
  rw[show Nat.beq r.1 r.1=true from Nat.beq_refl _];rfl
 |r::l,i,j+1,q,hn,h=>by
  rw[List.map_cons,List.nodup_cons] at hn
  have h:l[j]?=some q:=by simpa using h
  have hne:r.1≠q.1:=fun e=>hn.1 (e▸List.mem_map_of_mem (qv h))
  have hb:Nat.beq r.1 q.1=false:=by
   cases e:Nat.beq r.1 q.1 with
   |false=>rfl
   |true=>exact absurd (Nat.eq_of_beq_eq_true e) hne
  unfold qC
  rw[hb]
  show qC q.1 l (i+1)=_
  rw[nP l (i+1) j q hn.2 h];omega
section
variable {P:Program} {E:World}
theorem rS {I:aJ} {φ:bV} {n:Nat} {F:List (Nat × Obj)} {w:World} {ρ:Nat→Nat}:∀(l:List (Nat × List EV)) (k:Nat) (H:Hp),cy I φ H n F E w→(∀j,k≤j→H.get j=none)→(∀(j:Nat) q,l[j]?=some q→eG I φ (k+j) (.kn (EV.renL ρ q.2)) [])→cy I φ (C1 ρ l k H) n F E w
 |[],_,_,h,_,_=>h
 |q::l,k,H,h,hn,hb=>by
  refine rS l (k+1) _ (h.addK (hn k (Nat.le_refl _)) (hb 0 q Z)) (fun j hj=>?_) fun j r hr=>?_
  ·rw[Tr.get_set,if_neg (by omega)];exact hn j (by omega)
  ·have:=hb (j+1) r (by simpa using hr)
   rwa [show k+(j+1)=k+1+j by omega] at this
theorem AU {m:aM} (hM:aA P E m):cf P E (C2 m):=fun f ar H nx x H' nx' h φ I F w vs hR hr=>by
 unfold C2 at h
 cases hb:(Nat.beq f m.f&&(Nat.ble nx m.base&&rQ ar m.ar)&&m.hin.all (xE H)) with
 |false=>rw[hb] at h;cases h
 |true=>
  rw[hb] at h
  simp only[cond_true] at h
  cases hb2:(m.x.okN (B7 m)&&m.hout.all (fun q=>EV.okNL (B7 m) q.2&&Nat.ble m.base q.1)&&qB (m.hout.map (·.1))) with
  |false=>rw[hb2] at h;cases h
  |true=>
   rw[hb2] at h
   simp only[cond_true,Option.some.injEq,Prod.mk.injEq] at h
   obtain ⟨rfl,rfl,rfl⟩:=h
   simp only[qz,List.all_eq_true] at hb hb2
   obtain ⟨⟨c1,c2,c3⟩,c4⟩:=hb
   obtain ⟨⟨d1,d2⟩,d3⟩:=hb2
   have c1:=Nat.eq_of_beq_eq_true c1
   have c2:=Nat.le_of_ble_eq_true c2
   have c3:=(lR 2000).2 _ _ c3
   subst c1 c3
   have d3:=kF d3
   obtain ⟨J,j1,j2,j3⟩:=cy.frzL m.hin hR fun q hq=>rR (c4 q hq)
   obtain ⟨ht,M,L,hn,hm,hrep,hS⟩:=j3
   refine (hM φ J (L++F) w vs j2 hr hS fun j hj=>ht j (Nat.le_trans c2 hj)).mono fun v w' ⟨K,ψ,k1,k2,k3,k4,k5⟩=>?_
   obtain ⟨χ,hχ⟩:∃χ:bV,χ=fun j=>if j<nx then φ j else if nx≤j∧j<nx+m.hout.length then (m.hout[j - nx]?).bind fun q=>ψ q.1 else none:=⟨_,rfl⟩
   have hle:φ.le χ:=fun b q e=>by
    rw[hχ]
    by_cases hb:b<nx
    ·simp only[if_pos hb];exact e
    ·rw[ht b (by omega)] at e;cases e
   have hren:∀b q,B7 m b=true→ψ b=some q→χ (vU m nx b)=some q:=fun b q hk hq=>by
    unfold vU
    by_cases hb:b<m.base
    ·rw[show Nat.blt b m.base=true from Nat.ble_eq_true_of_le hb]
     rw[k2 b hb] at hq
     exact hle b q hq
    ·rw[show Nat.blt b m.base=false from by
      cases e:Nat.blt b m.base with
      |false=>rfl
      |true=>exact absurd (Nat.le_of_ble_eq_true e) (by omega)]
     unfold B7 at hk
     rw[Bool.or_eq_true] at hk
     have hk:=hk.resolve_left fun e=>hb (Nat.le_of_ble_eq_true e)
     obtain ⟨r,hr2,e⟩:=List.mem_map.1 (eN.1 hk)
     obtain ⟨i,hi⟩:=List.getElem?_of_mem hr2
     have hil:=(List.getElem?_eq_some_iff.1 hi).1
     have hp:=nP m.hout 0 i r d3 hi
     have e:r.1=b:=e
     rw[e] at hp
     show χ (nx+qC b m.hout 0)=some q
     rw[hp,hχ]
     simp only
     rw[if_neg (by omega),if_pos (by omega),show nx+(0+i) - nx=i by omega,hi]
     show ψ r.1=some q
     rw[e];exact hq
   have htop:∀j,nx+m.hout.length≤j→χ j=none:=fun j hj=>by
    rw[hχ];simp only
    rw[if_neg (by omega),if_neg (by omega)]
   have hR2:cy K χ (jV m.hin H) (nx+m.hout.length) F E w':=⟨htop,M,L,hn,hm,hrep.mono k1 hle,k5⟩
   have hnone:∀j,nx≤j→(jV m.hin H).get j=none:=fun j hj=>by
    cases ho:(jV m.hin H).get j with
    |none=>rfl
    |some o=>
     obtain ⟨q,hq⟩:=hrep.phi _ ((hm j o).2 ho)
     rw[ht j hj] at hq;cases hq
   refine ⟨K,χ,j1.trans k1,hle,fun j hj _=>by rw[hχ];simp only;rw[if_pos hj],by omega,aQ.ren hren m.x v d1 k3,?_⟩
   refine rS m.hout nx _ hR2 hnone fun j q hq=>?_
   have hqm:=qv hq
   obtain ⟨p,us,p1,p2,p3,p4,_⟩:=k4 q hqm
   have hd:=d2 q hqm
   have hpos:=nP m.hout 0 j q d3 hq
   have hok:B7 m q.1=true:=by
    unfold B7
    rw[Bool.or_eq_true]
    exact .inr (eN.2 (List.mem_map_of_mem hqm))
   have hu:vU m nx q.1=nx+j:=by
    unfold vU
    rw[show Nat.blt q.1 m.base=false from by
     cases e:Nat.blt q.1 m.base with
     |false=>rfl
     |true=>exact absurd (Nat.le_of_ble_eq_true e) (by have:=Nat.le_of_ble_eq_true hd.2;omega),hpos,Nat.zero_add];rfl
   refine ⟨p,us,by rw[←hu];exact hren _ _ hok p1,RelVs.ren hren _ _ hd.1 p2,p3,p4,rfl⟩
noncomputable def C3:List aM→bL
 |[]=>fun _ _ _ _=>none
 |m::l=>Ec (C2 m) (C3 l)
theorem nQ:∀{l:List aM},(∀m∈l,aA P E m)→cf P E (C3 l)
 |[],_=>fun f ar H nx x H' nx' h=>by cases h
 |m::l,h=>lU (AU (h m (.head _))) (nQ fun r hr=>h r (.tail _ hr))
end
end
section
open Go.Proofs.Tryz
open Go.Proofs
noncomputable def B8:List (Nat × List EV)→Nat→Option (List EV)
 |[],_=>none
 |q::l,k=>bif Nat.beq q.1 k then some q.2 else B8 l k
noncomputable def EK (c:List AV→List EV→List AV) (k:Nat):List (List AV)→List EV→List (List AV)
 |[],_=>[]
 |r::rs,cs=>c r (cs.take k)::EK c k rs (cs.drop k)
noncomputable def conv (hs:List (Nat × List EV)) (nv:Nat) (val:Nat→Int):Nat→List AV→List EV→List AV
 |0,_,xs=>xs.map fun _=>.any
 |_+1,_,[]=>[]
 |n+1,[],_::xs=>.any::conv hs nv val n [] xs
 |n+1,a::al,x::xs=>(match a,x with
  |.agg bs,.ag l=>.agg (conv hs nv val n bs l)
  |.tup bs,.tu l=>.tup (conv hs nv val n bs l)
  |.fro k _,.ns=>.fro k []
  |.fro k rows,.sl kb off len sz _=>match B8 hs kb with
   |some cs=>bif Nat.beq sz k&&(Nat.beq len rows.length&&Nat.ble (off+len*k) cs.length) then .fro k (EK (conv hs nv val n) k rows (cs.drop off)) else .any
   |none=>.any
  |_,.b y=>.bool y
  |_,.i kd m=>.int kd m
  |_,.s y=>.str y
  |_,.vr k=>bif Nat.blt k nv then .int .i64 (val k) else .any
  |_,_=>.any)::conv hs nv val n al xs
section
variable {I:G} {ψ:bV} {hs:List (Nat × List EV)} {nv:Nat} {val:Nat→Int}
end
section
variable {P:Program} {E:World}
theorem xF {call:bL} (hC:cf P E call) {m:aM} (hn:qB (m.hin.map (·.1))=true)
  (h:(match call m.f m.ar (Dk m.hin) m.base with|some (x,H',_)=>some (x,m.hout.map fun q=>(H'.get q.1).bind VO.cs?)|none=>none)=some (m.x,m.hout.map fun q=>some q.2)):aA P E m:=fun φ I F w vs hin hr hS ht=>by
 split at h
 ·rename_i x H' nx' hc
  simp only[Option.some.injEq,Prod.mk.injEq] at h
  obtain ⟨rfl,h2⟩:=h
  have h2:∀q∈m.hout,(H'.get q.1).bind VO.cs?=some q.2:=fun q hq=>by
   obtain ⟨i,hi⟩:=List.getElem?_of_mem hq
   have:=congrArg (fun l:List (Option (List EV))=>l[i]?) h2
   simp only[List.getElem?_map,hi,Option.map_some,Option.some.injEq] at this
   exact this
  have hnd:=kF hn
  have hR:cy I φ (Dk m.hin) m.base F E w:=by
   refine ⟨ht,m.hin.map fun q=>(q.1,.kn q.2),[],?_,fun j o=>?_,?_,hS⟩
   ·rw[List.map_map];exact hnd
   ·rw[show Dk m.hin=jV m.hin .lf from rfl,nO m.hin .lf j o hnd fun _ _=>Tr.get_lf _,Tr.get_lf,List.mem_map]
    constructor
    ·rintro ⟨q,hq,e⟩
     cases e
     exact .inl ⟨q.2,hq,rfl⟩
    ·rintro (⟨cs,h1,rfl⟩|h)
     ·exact ⟨(j,cs),h1,rfl⟩
     ·cases h
   ·generalize m.hin=l at hin
    clear hn hnd hc h2 hr
    induction l with
    |nil=>rfl
    |cons q l ih=>exact ⟨[],[],rfl,hin q (.head _),ih fun r hr=>hin r (.tail _ hr)⟩
  refine (hC _ _ _ _ _ _ _ hc φ I F w vs hR hr).mono fun v w' ⟨J,ψ,a,b,c,d,e,f⟩=>?_
  obtain ⟨K,k1,k2,k3⟩:=cy.frzL m.hout f fun q hq=>h2 q hq
  exact ⟨K,ψ,a.trans k1,fun j hj=>c j hj (Nat.ne_of_lt hj),e,k2,k3.sl⟩
 ·cases h
end
end
section
open Go.Proofs.Tryz
open Go.Proofs Go.Lib Go.Shelf Go.RowKit
variable {E:World} {m:Int}
set_option maxRecDepth 100000
theorem xG {I:aJ} {O:List (Nat × Obj)} {w:World} {a:Addr} {v:Value} (h:E.cell? a=some v) (hS:SL I O E w):w.cell? a=some v:=by
 unfold World.cell? at *
 cases hh:E.heap[a.block]? with
 |none=>rw[hh] at h;cases h
 |some o=>rw[hh] at h;rw[hS.pers _ _ (hS.base _ _ hh)];exact h
def aP (E:World) (m:Int):Prop:=E.cell? ⟨2,2,none⟩=some (.int .u64 m)
theorem nR (hM:aP E m) (u:Nat) (h1:100≤u) (h2:u<512):aV prog E 260 [.int .u64 u] (.int .i64 (2+if m≤(u:Int) then 1 else 0)):=fun I F w vs h1' h2'=>by
 obtain ⟨v,us,rfl,h3,h5⟩:=h1'
 have h3:v=.int .u64 u:=h3
 have h5:us=[]:=h5
 subst h3 h5
 obtain ⟨ht,L,hL,hS⟩:=h2'
 have hL:L=[]:=hL
 subst hL
 refine Fn.ofCalls func260 Z (by decide) ?_
 exact (AR (ρ:=Tryz.laysM284_ren) Tryz.laysM284 u h1 h2 w m (xG hM hS)).mono fun e w' ⟨he,hw⟩=>⟨_,he,I,.int .i64 (2+if m≤(u:Int) then 1 else 0),[],.refl _,rfl,⟨ht,[],rfl,by rw[hw];exact hS⟩,rfl⟩
def AW (k:Nat) (d:Int):p8:=fun f ar=>match f,ar with
 |260,[.i .u64 n]=>bif decide (n=(k:Int)) then some (.v (.i .i64 d)) else none
 |_,_=>none
theorem AX (hM:aP E m) {k:Nat} (h1:100≤k) (h2:k<512):oV prog E (AW k (2+if m≤(k:Int) then 1 else 0)):=by
 constructor
 ·intro f ar x h
  unfold AW at h
  split at h
  ·rename_i n
   cases hb:decide (n=(k:Int)) with
   |false=>rw[hb] at h;cases h
   |true=>
    rw[hb] at h;cases h
    have hb:=of_decide_eq_true hb
    subst hb
    refine ⟨_,_,nR hM k h1 h2,fun φ vs hr I=>?_,fun I v hv φ=>hv⟩
    obtain ⟨v,us,rfl,h1,h2⟩:=hr
    exact ⟨v,us,rfl,h1,h2⟩
  ·cases h
 ·intro f ar l h
  unfold AW at h
  split at h
  ·rename_i n
   cases hb:decide (n=(k:Int))<;>(rw[hb] at h;cases h)
  ·cases h
theorem ED:prog.follows .mixedOrders=true:=by kernel_rfl
noncomputable def Ee (k:Nat) (d:Int):bL:=vT prog (xC prog) (AN (AW k d)) 60 20
noncomputable def mS (k:Nat) (d:Int):Bool:=match Ee k d 241 [.i .i64 (.ofNat k)] .lf 0 with
 |some (.s t,_,_)=>Nat.ble 2 t.data.toList.length&&Nat.ble t.data.toList.length 3
 |_=>false
noncomputable def yK (j:Nat):Bool:=(List.range 46).all fun i=>mS (100+46*j+i) 2&&mS (100+46*j+i) 3
theorem EM:yK 0=true:=by decide +kernel
theorem EN:yK 1=true:=by decide +kernel
theorem EO:yK 2=true:=by decide +kernel
theorem EP:yK 3=true:=by decide +kernel
theorem EQ:yK 4=true:=by decide +kernel
theorem ER:yK 5=true:=by decide +kernel
theorem ET:yK 6=true:=by decide +kernel
theorem EU:yK 7=true:=by decide +kernel
theorem EW:yK 8=true:=by decide +kernel
theorem AY:∀j:Nat,j<9→yK j=true
 |0,_=>EM
 |1,_=>EN
 |2,_=>EO
 |3,_=>EP
 |4,_=>EQ
 |5,_=>ER
 |6,_=>ET
 |7,_=>EU
 |8,_=>EW
 |n+9,h=>absurd h (by omega)
theorem vV {k:Nat} (h1:100≤k) (h2:k<512):mS k 2=true∧mS k 3=true:=by
 have:=List.all_eq_true.1 (AY ((k - 100) / 46) (by omega)) ((k - 100) % 46) (List.mem_range.2 (by omega))
 rw[qz,show 100+46*((k - 100) / 46)+(k - 100) % 46=k by omega] at this
 exact this
noncomputable def EE (k:Nat):aM:=⟨241,[.i .i64 (.ofNat k)],[],.us 2 3,[],0⟩
theorem AZ (hM:aP E m) {k:Nat} (h1:100≤k) (h2:k<512):aA prog E (EE k):=fun φ I F w vs hi hr hS ht=>by
 have hc:mS k (2+if m≤(k:Int) then 1 else 0)=true:=by
  have:=vV h1 h2
  split
  ·exact this.2
  ·exact this.1
 unfold mS at hc
 split at hc
 ·rename_i t H' nx' he
  rw[qz] at hc
  have hM':aA prog E ⟨241,[.i .i64 (.ofNat k)],[],.s t,[],0⟩:=xF (kE ED nN (nM (AX hM h1 (by omega))) 60 20) rfl (by
   show (match Ee k (2+if m≤(k:Int) then 1 else 0) 241 [.i .i64 (.ofNat k)] .lf 0 with|some (x,H',_)=>some (x,[])|none=>none)=some (.s t,[])
   rw[he])
  refine (hM' φ I F w vs hi hr hS ht).mono fun v w' ⟨J,ψ,a,b,c,d⟩=>⟨J,ψ,a,b,⟨t,c,Nat.le_of_ble_eq_true hc.1,Nat.le_of_ble_eq_true hc.2⟩,d⟩
 ·cases hc
noncomputable def qD:bL:=fun f ar H nx=>match ar with
 |[.i .i64 (.ofNat k)]=>bif Nat.beq f 241&&(Nat.ble 100 k&&Nat.blt k 512) then some (.us 2 3,H,nx) else none
 |_=>none
theorem mT (hM:aP E m):cf prog E qD:=fun f ar H nx x H' nx' h φ I F w vs hR hr=>by
 unfold qD at h
 split at h
 ·rename_i k
  cases hb:(Nat.beq f 241&&(Nat.ble 100 k&&Nat.blt k 512)) with
  |false=>rw[hb] at h;cases h
  |true=>
   rw[hb,cond_true] at h
   cases h
   simp only[qz] at hb
   obtain rfl:=Nat.eq_of_beq_eq_true hb.1
   obtain ⟨M,L,hn,hm,hrep,hS⟩:=hR.ex
   exact (AZ hM (Nat.le_of_ble_eq_true hb.2.1) (Nat.le_of_ble_eq_true hb.2.2) (fun _=>none) I (L++F) w vs (fun _ h=>nomatch h) hr hS fun _ _=>rfl).mono fun v w' ⟨J,ψ,a,_,c,_,e⟩=>⟨J,φ,a,.refl _,fun _ _ _=>rfl,Nat.le_refl _,c,hR.top,M,L,hn,hm,hrep.mono a (.refl _),e⟩
 ·cases h
end
section
open Go.Proofs.Tryz
open Go.Proofs Go.Lib Go.Shelf Go.RowKit
variable {E:World}
set_option maxRecDepth 100000
def rT:p8:=fun f ar=>match f,ar with
 |82,[.i .i32 c]=>bif decide (-2147483648≤c)&&decide (c≤2147483647) then some (.v (.b (isLetterU c))) else none
 |80,[.i .i64 op]=>some (.v (.ag [.s (bm op).1,.s (bm op).2.1,.s (bm op).2.2]))
 |_,_=>none
theorem oX (hL:ae E):oV prog E rT:=by
 constructor
 ·intro f ar x h
  unfold rT at h
  split at h
  ·rename_i c
   cases hb:(decide (-2147483648≤c)&&decide (c≤2147483647)) with
   |false=>rw[hb] at h;cases h
   |true=>
    rw[hb] at h;cases h
    simp only[qz,decide_eq_true_eq] at hb
    refine ⟨_,_,f6 c hb.1 hb.2 hL,fun φ vs hr I=>?_,fun I v hv φ=>hv⟩
    obtain ⟨v,us,rfl,h1,h2⟩:=hr
    exact ⟨v,us,rfl,h1,h2⟩
  ·rename_i op
   cases h
   refine ⟨_,_,j4 op,fun φ vs hr I=>?_,fun I v hv φ=>?_⟩
   ·obtain ⟨v,us,rfl,h1,h2⟩:=hr
    exact ⟨v,us,rfl,h1,h2⟩
   ·obtain ⟨vs,e,v1,u1,rfl,h1,v2,u2,rfl,h2,v3,u3,rfl,h3,h4⟩:=hv
    have h4:u3=[]:=h4
    subst h4
    exact ⟨_,e,v1,_,rfl,h1,v2,_,rfl,h2,v3,_,rfl,h3,rfl⟩
  ·cases h
 ·intro f ar l h
  unfold rT at h
  split at h
  ·rename_i c
   cases hb:(decide (-2147483648≤c)&&decide (c≤2147483647))<;>(rw[hb] at h;cases h)
  ·cases h
  ·cases h
theorem B9:prog.follows .mixedOrders=true:=by kernel_rfl
noncomputable def Ef (l:List aM):bL:=vT prog (xC prog) (Ec (AN rT) (Ec qD (C3 l))) 600 60
theorem aC (hL:ae E) {pw:Int} (hP:aP E pw) {l:List aM} (h:∀m∈l,aA prog E m):cf prog E (Ef l):=kE B9 nN (lU (nM (oX hL)) (lU (mT hP) (nQ h))) 600 60
theorem au {m:aM} {l:List aM} (h1:aA prog E m) (h2:∀r∈l,aA prog E r):∀r∈m::l,aA prog E r:=fun r hr=>(List.mem_cons.1 hr).elim (fun e=>e▸h1) (h2 r)
def xH:List aM:=[]
theorem xI (hL:ae E) {pw:Int} (hP:aP E pw):∀m∈xH,aA prog E m:=fun _ h=>nomatch h
def xJ:aM:=⟨34,[.ag [.sl 3 0 2 2 (.ex 2),.sl 4 0 2 1 (.ex 2),.sl 12 0 1 7 (.ex 1)]],[(3,[.s ⟨#[120,115]⟩,.i .i64 2,.s ⟨#[105]⟩,.i .i64 0]),(4,[.i .i64 0,.i .i64 1]),(12,[.s ⟨#[97]⟩,.ns,.sl 9 0 2 4 (.ex 2),.i .i64 2,.i .i64 1,.i .i64 0,.i .i64 0]),(9,[.i .i64 18,.i .i64 (-1),.sl 5 0 2 1 (.ex 2),.i .i64 0,.i .i64 18,.i .i64 (-1),.sl 7 0 2 1 (.ex 2),.i .i64 0]),(5,[.i .i64 0,.i .i64 1]),(7,[.i .i64 0,.i .i64 1])],.b true,[],6993000000⟩
theorem C4 (hL:ae E) {pw:Int} (hP:aP E pw):aA prog E xJ:=aB (aC hL hP (xI hL hP)) (by decide +kernel)
def xK:List aM:=xJ::xH
theorem xL (hL:ae E) {pw:Int} (hP:aP E pw):∀m∈xK,aA prog E m:=au (C4 hL hP) (xI hL hP)
def xM:aM:=⟨23,[.ag [.sl 3 0 2 2 (.ex 2),.sl 4 0 2 1 (.ex 2),.sl 12 0 1 7 (.ex 1)]],[(3,[.s ⟨#[120,115]⟩,.i .i64 2,.s ⟨#[105]⟩,.i .i64 0]),(4,[.i .i64 0,.i .i64 1]),(12,[.s ⟨#[97]⟩,.ns,.sl 9 0 2 4 (.ex 2),.i .i64 2,.i .i64 1,.i .i64 0,.i .i64 0]),(9,[.i .i64 18,.i .i64 (-1),.sl 5 0 2 1 (.ex 2),.i .i64 0,.i .i64 18,.i .i64 (-1),.sl 7 0 2 1 (.ex 2),.i .i64 0]),(5,[.i .i64 0,.i .i64 1]),(7,[.i .i64 0,.i .i64 1])],.i .i64 0,[],5994000000⟩
theorem C5 (hL:ae E) {pw:Int} (hP:aP E pw):aA prog E xM:=aB (aC hL hP (xL hL hP)) (by decide +kernel)
def xN:List aM:=xM::xK
theorem xO (hL:ae E) {pw:Int} (hP:aP E pw):∀m∈xN,aA prog E m:=au (C5 hL hP) (xL hL hP)
def xP:aM:=⟨102,[.ag [.sl 3 0 2 2 (.ex 2),.sl 4 0 2 1 (.ex 2),.sl 12 0 1 7 (.ex 1)]],[(3,[.s ⟨#[120,115]⟩,.i .i64 2,.s ⟨#[105]⟩,.i .i64 0]),(4,[.i .i64 0,.i .i64 1]),(12,[.s ⟨#[97]⟩,.ns,.sl 9 0 2 4 (.ex 2),.i .i64 2,.i .i64 1,.i .i64 0,.i .i64 0]),(9,[.i .i64 18,.i .i64 (-1),.sl 5 0 2 1 (.ex 2),.i .i64 0,.i .i64 18,.i .i64 (-1),.sl 7 0 2 1 (.ex 2),.i .i64 0]),(5,[.i .i64 0,.i .i64 1]),(7,[.i .i64 0,.i .i64 1])],.b true,[],4995000000⟩
theorem C6 (hL:ae E) {pw:Int} (hP:aP E pw):aA prog E xP:=aB (aC hL hP (xO hL hP)) (by decide +kernel)
def xQ:List aM:=xP::xN
theorem xR (hL:ae E) {pw:Int} (hP:aP E pw):∀m∈xQ,aA prog E m:=au (C6 hL hP) (xO hL hP)
def xS:aM:=⟨103,[.ag [.sl 3 0 2 2 (.ex 2),.sl 4 0 2 1 (.ex 2),.sl 12 0 1 7 (.ex 1)]],[(3,[.s ⟨#[120,115]⟩,.i .i64 2,.s ⟨#[105]⟩,.i .i64 0]),(4,[.i .i64 0,.i .i64 1]),(12,[.s ⟨#[97]⟩,.ns,.sl 9 0 2 4 (.ex 2),.i .i64 2,.i .i64 1,.i .i64 0,.i .i64 0]),(9,[.i .i64 18,.i .i64 (-1),.sl 5 0 2 1 (.ex 2),.i .i64 0,.i .i64 18,.i .i64 (-1),.sl 7 0 2 1 (.ex 2),.i .i64 0]),(5,[.i .i64 0,.i .i64 1]),(7,[.i .i64 0,.i .i64 1])],.sl 4992000005 0 1 1 (.ex 1),[(4992000005,[.ns])],4992000000⟩
theorem C7 (hL:ae E) {pw:Int} (hP:aP E pw):aA prog E xS:=aB (aC hL hP (xR hL hP)) (by decide +kernel)
def xT:List aM:=xS::xQ
theorem xU (hL:ae E) {pw:Int} (hP:aP E pw):∀m∈xT,aA prog E m:=au (C7 hL hP) (xR hL hP)
def xV:aM:=⟨124,[.ag [.sl 3 0 2 2 (.ex 2),.sl 4 0 2 1 (.ex 2),.sl 12 0 1 7 (.ex 1)]],[(3,[.s ⟨#[120,115]⟩,.i .i64 2,.s ⟨#[105]⟩,.i .i64 0]),(4,[.i .i64 0,.i .i64 1]),(12,[.s ⟨#[97]⟩,.ns,.sl 9 0 2 4 (.ex 2),.i .i64 2,.i .i64 1,.i .i64 0,.i .i64 0]),(9,[.i .i64 18,.i .i64 (-1),.sl 5 0 2 1 (.ex 2),.i .i64 0,.i .i64 18,.i .i64 (-1),.sl 7 0 2 1 (.ex 2),.i .i64 0]),(5,[.i .i64 0,.i .i64 1]),(7,[.i .i64 0,.i .i64 1])],.sl 4991000064 0 1 1 .en,[(4991000064,[.i .i64 0])],4991000000⟩
theorem C8 (hL:ae E) {pw:Int} (hP:aP E pw):aA prog E xV:=aB (aC hL hP (xU hL hP)) (by decide +kernel)
def xW:List aM:=xV::xT
theorem xX (hL:ae E) {pw:Int} (hP:aP E pw):∀m∈xW,aA prog E m:=au (C8 hL hP) (xU hL hP)
def xY:aM:=⟨98,[.sl 4990000012 0 1 1 .en,.sl 4990000032 0 1 1 (.ex 1),.i .i64 1],[(4990000012,[.i .i64 0]),(4990000032,[.ns])],.sl 5989000090 0 1 1 (.ex 1),[(5989000090,[.i .i64 (-1)])],5989000000⟩
theorem C9 (hL:ae E) {pw:Int} (hP:aP E pw):aA prog E xY:=aB (aC hL hP (xX hL hP)) (by decide +kernel)
def xZ:List aM:=xY::xW
theorem x8 (hL:ae E) {pw:Int} (hP:aP E pw):∀m∈xZ,aA prog E m:=au (C9 hL hP) (xX hL hP)
def x9:aM:=⟨84,[.ag [.sl 3 0 2 2 (.ex 2),.sl 4 0 2 1 (.ex 2),.sl 12 0 1 7 (.ex 1)]],[(3,[.s ⟨#[120,115]⟩,.i .i64 2,.s ⟨#[105]⟩,.i .i64 0]),(4,[.i .i64 0,.i .i64 1]),(12,[.s ⟨#[97]⟩,.ns,.sl 9 0 2 4 (.ex 2),.i .i64 2,.i .i64 1,.i .i64 0,.i .i64 0]),(9,[.i .i64 18,.i .i64 (-1),.sl 5 0 2 1 (.ex 2),.i .i64 0,.i .i64 18,.i .i64 (-1),.sl 7 0 2 1 (.ex 2),.i .i64 0]),(5,[.i .i64 0,.i .i64 1]),(7,[.i .i64 0,.i .i64 1])],.tu [.p 4990000046 0,.i .i64 0],[(4990000046,[.sl 4990000048 0 1 1 (.ex 1),.sl 4990000135 0 1 1 (.ex 1),.sl 4990000042 0 1 1 (.ex 1),.sl 4990000044 0 1 1 (.ex 1)]),(4990000048,[.i .i64 (-1)]),(4990000135,[.i .i64 0]),(4990000042,[.ns]),(4990000044,[.ns])],4990000000⟩
theorem Da (hL:ae E) {pw:Int} (hP:aP E pw):aA prog E x9:=aB (aC hL hP (x8 hL hP)) (by decide +kernel)
def yA:List aM:=x9::xZ
theorem yB (hL:ae E) {pw:Int} (hP:aP E pw):∀m∈yA,aA prog E m:=au (Da hL hP) (x8 hL hP)
def yC:aM:=⟨85,[.ag [.sl 3 0 2 2 (.ex 2),.sl 4 0 2 1 (.ex 2),.sl 12 0 1 7 (.ex 1)]],[(3,[.s ⟨#[120,115]⟩,.i .i64 2,.s ⟨#[105]⟩,.i .i64 0]),(4,[.i .i64 0,.i .i64 1]),(12,[.s ⟨#[97]⟩,.ns,.sl 9 0 2 4 (.ex 2),.i .i64 2,.i .i64 1,.i .i64 0,.i .i64 0]),(9,[.i .i64 18,.i .i64 (-1),.sl 5 0 2 1 (.ex 2),.i .i64 0,.i .i64 18,.i .i64 (-1),.sl 7 0 2 1 (.ex 2),.i .i64 0]),(5,[.i .i64 0,.i .i64 1]),(7,[.i .i64 0,.i .i64 1])],.sl 4988000099 0 2 2 .en,[(4988000099,[.i .i64 (-1),.i .i64 0,.i .i64 (-1),.i .i64 0])],4988000000⟩
theorem Db (hL:ae E) {pw:Int} (hP:aP E pw):aA prog E yC:=aB (aC hL hP (yB hL hP)) (by decide +kernel)
def yD:List aM:=yC::yA
theorem yE (hL:ae E) {pw:Int} (hP:aP E pw):∀m∈yD,aA prog E m:=au (Db hL hP) (yB hL hP)
def yF:aM:=⟨95,[.ag [.sl 3 0 2 2 (.ex 2),.sl 4 0 2 1 (.ex 2),.sl 12 0 1 7 (.ex 1)]],[(3,[.s ⟨#[120,115]⟩,.i .i64 2,.s ⟨#[105]⟩,.i .i64 0]),(4,[.i .i64 0,.i .i64 1]),(12,[.s ⟨#[97]⟩,.ns,.sl 9 0 2 4 (.ex 2),.i .i64 2,.i .i64 1,.i .i64 0,.i .i64 0]),(9,[.i .i64 18,.i .i64 (-1),.sl 5 0 2 1 (.ex 2),.i .i64 0,.i .i64 18,.i .i64 (-1),.sl 7 0 2 1 (.ex 2),.i .i64 0]),(5,[.i .i64 0,.i .i64 1]),(7,[.i .i64 0,.i .i64 1])],.i .i64 0,[],3996000000⟩
theorem Dc (hL:ae E) {pw:Int} (hP:aP E pw):aA prog E yF:=aB (aC hL hP (yE hL hP)) (by decide +kernel)
def yG:List aM:=yF::yD
theorem yH (hL:ae E) {pw:Int} (hP:aP E pw):∀m∈yG,aA prog E m:=au (Dc hL hP) (yE hL hP)
def yI:aM:=⟨83,[.ag [.sl 3 0 2 2 (.ex 2),.sl 4 0 2 1 (.ex 2),.sl 12 0 1 7 (.ex 1)]],[(3,[.s ⟨#[120,115]⟩,.i .i64 2,.s ⟨#[105]⟩,.i .i64 0]),(4,[.i .i64 0,.i .i64 1]),(12,[.s ⟨#[97]⟩,.ns,.sl 9 0 2 4 (.ex 2),.i .i64 2,.i .i64 1,.i .i64 0,.i .i64 0]),(9,[.i .i64 18,.i .i64 (-1),.sl 5 0 2 1 (.ex 2),.i .i64 0,.i .i64 18,.i .i64 (-1),.sl 7 0 2 1 (.ex 2),.i .i64 0]),(5,[.i .i64 0,.i .i64 1]),(7,[.i .i64 0,.i .i64 1])],.i .i64 0,[],2997000000⟩
theorem Dd (hL:ae E) {pw:Int} (hP:aP E pw):aA prog E yI:=aB (aC hL hP (yH hL hP)) (by decide +kernel)
def rU:List aM:=yI::yG
theorem rV (hL:ae E) {pw:Int} (hP:aP E pw):∀m∈rU,aA prog E m:=au (Dd hL hP) (yH hL hP)
def rW:aM:=⟨48,[.ag [.sl 3 0 2 2 (.ex 2),.sl 4 0 2 1 (.ex 2),.sl 12 0 1 7 (.ex 1)]],[(3,[.s ⟨#[120,115]⟩,.i .i64 2,.s ⟨#[105]⟩,.i .i64 0]),(4,[.i .i64 0,.i .i64 1]),(12,[.s ⟨#[97]⟩,.ns,.sl 9 0 2 4 (.ex 2),.i .i64 2,.i .i64 1,.i .i64 0,.i .i64 0]),(9,[.i .i64 18,.i .i64 (-1),.sl 5 0 2 1 (.ex 2),.i .i64 0,.i .i64 18,.i .i64 (-1),.sl 7 0 2 1 (.ex 2),.i .i64 0]),(5,[.i .i64 0,.i .i64 1]),(7,[.i .i64 0,.i .i64 1])],.tu [.sl 1988001340 0 2 1 .en,.i .i64 0],[(1988001340,[.b false,.b true])],1988000000⟩
theorem A3 (hL:ae E) {pw:Int} (hP:aP E pw):aA prog E rW:=aB (aC hL hP (rV hL hP)) (by decide +kernel)
def rX:List aM:=rW::rU
theorem rY (hL:ae E) {pw:Int} (hP:aP E pw):∀m∈rX,aA prog E m:=au (A3 hL hP) (rV hL hP)
def rZ:aM:=⟨34,[.ag [.sl 3 0 2 2 (.ex 2),.sl 4 0 2 1 (.ex 2),.sl 12 0 1 7 (.ex 1)]],[(3,[.s ⟨#[120,115]⟩,.i .i64 2,.s ⟨#[105]⟩,.i .i64 0]),(4,[.i .i64 0,.i .i64 1]),(12,[.s ⟨#[97]⟩,.ns,.sl 9 0 2 4 (.ex 2),.i .i64 2,.i .i64 1,.i .i64 0,.i .i64 0]),(9,[.i .i64 18,.i .i64 (-1),.sl 5 0 2 1 (.ex 2),.i .i64 0,.i .i64 18,.i .i64 (-1),.sl 7 0 2 1 (.ex 2),.i .i64 0]),(5,[.i .i64 0,.i .i64 1]),(7,[.i .i64 0,.i .i64 1])],.b true,[],8980000000⟩
theorem A4 (hL:ae E) {pw:Int} (hP:aP E pw):aA prog E rZ:=aB (aC hL hP (rY hL hP)) (by decide +kernel)
def r3:List aM:=rZ::rX
theorem r4 (hL:ae E) {pw:Int} (hP:aP E pw):∀m∈r3,aA prog E m:=au (A4 hL hP) (rY hL hP)
def r5:aM:=⟨23,[.ag [.sl 3 0 2 2 (.ex 2),.sl 4 0 2 1 (.ex 2),.sl 12 0 1 7 (.ex 1)]],[(3,[.s ⟨#[120,115]⟩,.i .i64 2,.s ⟨#[105]⟩,.i .i64 0]),(4,[.i .i64 0,.i .i64 1]),(12,[.s ⟨#[97]⟩,.ns,.sl 9 0 2 4 (.ex 2),.i .i64 2,.i .i64 1,.i .i64 0,.i .i64 0]),(9,[.i .i64 18,.i .i64 (-1),.sl 5 0 2 1 (.ex 2),.i .i64 0,.i .i64 18,.i .i64 (-1),.sl 7 0 2 1 (.ex 2),.i .i64 0]),(5,[.i .i64 0,.i .i64 1]),(7,[.i .i64 0,.i .i64 1])],.i .i64 0,[],7981000000⟩
theorem A5 (hL:ae E) {pw:Int} (hP:aP E pw):aA prog E r5:=aB (aC hL hP (r4 hL hP)) (by decide +kernel)
def r6:List aM:=r5::r3
theorem r7 (hL:ae E) {pw:Int} (hP:aP E pw):∀m∈r6,aA prog E m:=au (A5 hL hP) (r4 hL hP)
def r8:aM:=⟨102,[.ag [.sl 3 0 2 2 (.ex 2),.sl 4 0 2 1 (.ex 2),.sl 12 0 1 7 (.ex 1)]],[(3,[.s ⟨#[120,115]⟩,.i .i64 2,.s ⟨#[105]⟩,.i .i64 0]),(4,[.i .i64 0,.i .i64 1]),(12,[.s ⟨#[97]⟩,.ns,.sl 9 0 2 4 (.ex 2),.i .i64 2,.i .i64 1,.i .i64 0,.i .i64 0]),(9,[.i .i64 18,.i .i64 (-1),.sl 5 0 2 1 (.ex 2),.i .i64 0,.i .i64 18,.i .i64 (-1),.sl 7 0 2 1 (.ex 2),.i .i64 0]),(5,[.i .i64 0,.i .i64 1]),(7,[.i .i64 0,.i .i64 1])],.b true,[],6982000000⟩
theorem A6 (hL:ae E) {pw:Int} (hP:aP E pw):aA prog E r8:=aB (aC hL hP (r7 hL hP)) (by decide +kernel)
def r9:List aM:=r8::r6
theorem sb (hL:ae E) {pw:Int} (hP:aP E pw):∀m∈r9,aA prog E m:=au (A6 hL hP) (r7 hL hP)
def sd:aM:=⟨103,[.ag [.sl 3 0 2 2 (.ex 2),.sl 4 0 2 1 (.ex 2),.sl 12 0 1 7 (.ex 1)]],[(3,[.s ⟨#[120,115]⟩,.i .i64 2,.s ⟨#[105]⟩,.i .i64 0]),(4,[.i .i64 0,.i .i64 1]),(12,[.s ⟨#[97]⟩,.ns,.sl 9 0 2 4 (.ex 2),.i .i64 2,.i .i64 1,.i .i64 0,.i .i64 0]),(9,[.i .i64 18,.i .i64 (-1),.sl 5 0 2 1 (.ex 2),.i .i64 0,.i .i64 18,.i .i64 (-1),.sl 7 0 2 1 (.ex 2),.i .i64 0]),(5,[.i .i64 0,.i .i64 1]),(7,[.i .i64 0,.i .i64 1])],.sl 6979000005 0 1 1 (.ex 1),[(6979000005,[.ns])],6979000000⟩
theorem A7 (hL:ae E) {pw:Int} (hP:aP E pw):aA prog E sd:=aB (aC hL hP (sb hL hP)) (by decide +kernel)
def se:List aM:=sd::r9
theorem sf (hL:ae E) {pw:Int} (hP:aP E pw):∀m∈se,aA prog E m:=au (A7 hL hP) (sb hL hP)
def sg:aM:=⟨124,[.ag [.sl 3 0 2 2 (.ex 2),.sl 4 0 2 1 (.ex 2),.sl 12 0 1 7 (.ex 1)]],[(3,[.s ⟨#[120,115]⟩,.i .i64 2,.s ⟨#[105]⟩,.i .i64 0]),(4,[.i .i64 0,.i .i64 1]),(12,[.s ⟨#[97]⟩,.ns,.sl 9 0 2 4 (.ex 2),.i .i64 2,.i .i64 1,.i .i64 0,.i .i64 0]),(9,[.i .i64 18,.i .i64 (-1),.sl 5 0 2 1 (.ex 2),.i .i64 0,.i .i64 18,.i .i64 (-1),.sl 7 0 2 1 (.ex 2),.i .i64 0]),(5,[.i .i64 0,.i .i64 1]),(7,[.i .i64 0,.i .i64 1])],.sl 6978000064 0 1 1 .en,[(6978000064,[.i .i64 0])],6978000000⟩
theorem A8 (hL:ae E) {pw:Int} (hP:aP E pw):aA prog E sg:=aB (aC hL hP (sf hL hP)) (by decide +kernel)
def si:List aM:=sg::se
theorem sj (hL:ae E) {pw:Int} (hP:aP E pw):∀m∈si,aA prog E m:=au (A8 hL hP) (sf hL hP)
def sk:aM:=⟨98,[.sl 6977000012 0 1 1 .en,.sl 6977000032 0 1 1 (.ex 1),.i .i64 1],[(6977000012,[.i .i64 0]),(6977000032,[.ns])],.sl 7976000090 0 1 1 (.ex 1),[(7976000090,[.i .i64 (-1)])],7976000000⟩
theorem A9 (hL:ae E) {pw:Int} (hP:aP E pw):aA prog E sk:=aB (aC hL hP (sj hL hP)) (by decide +kernel)
def sm:List aM:=sk::si
theorem sn (hL:ae E) {pw:Int} (hP:aP E pw):∀m∈sm,aA prog E m:=au (A9 hL hP) (sj hL hP)
def sq:aM:=⟨84,[.ag [.sl 3 0 2 2 (.ex 2),.sl 4 0 2 1 (.ex 2),.sl 12 0 1 7 (.ex 1)]],[(3,[.s ⟨#[120,115]⟩,.i .i64 2,.s ⟨#[105]⟩,.i .i64 0]),(4,[.i .i64 0,.i .i64 1]),(12,[.s ⟨#[97]⟩,.ns,.sl 9 0 2 4 (.ex 2),.i .i64 2,.i .i64 1,.i .i64 0,.i .i64 0]),(9,[.i .i64 18,.i .i64 (-1),.sl 5 0 2 1 (.ex 2),.i .i64 0,.i .i64 18,.i .i64 (-1),.sl 7 0 2 1 (.ex 2),.i .i64 0]),(5,[.i .i64 0,.i .i64 1]),(7,[.i .i64 0,.i .i64 1])],.tu [.p 6977000046 0,.i .i64 0],[(6977000046,[.sl 6977000048 0 1 1 (.ex 1),.sl 6977000135 0 1 1 (.ex 1),.sl 6977000042 0 1 1 (.ex 1),.sl 6977000044 0 1 1 (.ex 1)]),(6977000048,[.i .i64 (-1)]),(6977000135,[.i .i64 0]),(6977000042,[.ns]),(6977000044,[.ns])],6977000000⟩
theorem Ba (hL:ae E) {pw:Int} (hP:aP E pw):aA prog E sq:=aB (aC hL hP (sn hL hP)) (by decide +kernel)
def sr:List aM:=sq::sm
theorem su (hL:ae E) {pw:Int} (hP:aP E pw):∀m∈sr,aA prog E m:=au (Ba hL hP) (sn hL hP)
def sv:aM:=⟨85,[.ag [.sl 3 0 2 2 (.ex 2),.sl 4 0 2 1 (.ex 2),.sl 12 0 1 7 (.ex 1)]],[(3,[.s ⟨#[120,115]⟩,.i .i64 2,.s ⟨#[105]⟩,.i .i64 0]),(4,[.i .i64 0,.i .i64 1]),(12,[.s ⟨#[97]⟩,.ns,.sl 9 0 2 4 (.ex 2),.i .i64 2,.i .i64 1,.i .i64 0,.i .i64 0]),(9,[.i .i64 18,.i .i64 (-1),.sl 5 0 2 1 (.ex 2),.i .i64 0,.i .i64 18,.i .i64 (-1),.sl 7 0 2 1 (.ex 2),.i .i64 0]),(5,[.i .i64 0,.i .i64 1]),(7,[.i .i64 0,.i .i64 1])],.sl 6975000099 0 2 2 .en,[(6975000099,[.i .i64 (-1),.i .i64 0,.i .i64 (-1),.i .i64 0])],6975000000⟩
theorem Bb (hL:ae E) {pw:Int} (hP:aP E pw):aA prog E sv:=aB (aC hL hP (su hL hP)) (by decide +kernel)
def sw:List aM:=sv::sr
theorem sx (hL:ae E) {pw:Int} (hP:aP E pw):∀m∈sw,aA prog E m:=au (Bb hL hP) (su hL hP)
def sy:aM:=⟨95,[.ag [.sl 3 0 2 2 (.ex 2),.sl 4 0 2 1 (.ex 2),.sl 12 0 1 7 (.ex 1)]],[(3,[.s ⟨#[120,115]⟩,.i .i64 2,.s ⟨#[105]⟩,.i .i64 0]),(4,[.i .i64 0,.i .i64 1]),(12,[.s ⟨#[97]⟩,.ns,.sl 9 0 2 4 (.ex 2),.i .i64 2,.i .i64 1,.i .i64 0,.i .i64 0]),(9,[.i .i64 18,.i .i64 (-1),.sl 5 0 2 1 (.ex 2),.i .i64 0,.i .i64 18,.i .i64 (-1),.sl 7 0 2 1 (.ex 2),.i .i64 0]),(5,[.i .i64 0,.i .i64 1]),(7,[.i .i64 0,.i .i64 1])],.i .i64 0,[],5983000000⟩
theorem Bc (hL:ae E) {pw:Int} (hP:aP E pw):aA prog E sy:=aB (aC hL hP (sx hL hP)) (by decide +kernel)
def sC:List aM:=sy::sw
theorem sD (hL:ae E) {pw:Int} (hP:aP E pw):∀m∈sC,aA prog E m:=au (Bc hL hP) (sx hL hP)
def sE:aM:=⟨83,[.ag [.sl 3 0 2 2 (.ex 2),.sl 4 0 2 1 (.ex 2),.sl 12 0 1 7 (.ex 1)]],[(3,[.s ⟨#[120,115]⟩,.i .i64 2,.s ⟨#[105]⟩,.i .i64 0]),(4,[.i .i64 0,.i .i64 1]),(12,[.s ⟨#[97]⟩,.ns,.sl 9 0 2 4 (.ex 2),.i .i64 2,.i .i64 1,.i .i64 0,.i .i64 0]),(9,[.i .i64 18,.i .i64 (-1),.sl 5 0 2 1 (.ex 2),.i .i64 0,.i .i64 18,.i .i64 (-1),.sl 7 0 2 1 (.ex 2),.i .i64 0]),(5,[.i .i64 0,.i .i64 1]),(7,[.i .i64 0,.i .i64 1])],.i .i64 0,[],4984000000⟩
theorem Bd (hL:ae E) {pw:Int} (hP:aP E pw):aA prog E sE:=aB (aC hL hP (sD hL hP)) (by decide +kernel)
def sF:List aM:=sE::sC
theorem sG (hL:ae E) {pw:Int} (hP:aP E pw):∀m∈sF,aA prog E m:=au (Bd hL hP) (sD hL hP)
def sH:aM:=⟨236,[.sl 3975000210 0 2 1 .en,.i .i64 510],[(3975000210,[.s ⟨#[120,115]⟩,.s ⟨#[105]⟩])],.sl 4974013208 0 510 1 .en,[(4974013208,[.s ⟨#[120,48]⟩,.s ⟨#[120,49]⟩,.s ⟨#[120,50]⟩,.s ⟨#[120,51]⟩,.s ⟨#[120,52]⟩,.s ⟨#[120,53]⟩,.s ⟨#[120,54]⟩,.s ⟨#[120,55]⟩,.s ⟨#[120,56]⟩,.s ⟨#[120,57]⟩,.s ⟨#[120,49,48]⟩,.s ⟨#[120,49,49]⟩,.s ⟨#[120,49,50]⟩,.s ⟨#[120,49,51]⟩,.s ⟨#[120,49,52]⟩,.s ⟨#[120,49,53]⟩,.s ⟨#[120,49,54]⟩,.s ⟨#[120,49,55]⟩,.s ⟨#[120,49,56]⟩,.s ⟨#[120,49,57]⟩,.s ⟨#[120,50,48]⟩,.s ⟨#[120,50,49]⟩,.s ⟨#[120,50,50]⟩,.s ⟨#[120,50,51]⟩,.s ⟨#[120,50,52]⟩,.s ⟨#[120,50,53]⟩,.s ⟨#[120,50,54]⟩,.s ⟨#[120,50,55]⟩,.s ⟨#[120,50,56]⟩,.s ⟨#[120,50,57]⟩,.s ⟨#[120,51,48]⟩,.s ⟨#[120,51,49]⟩,.s ⟨#[120,51,50]⟩,.s ⟨#[120,51,51]⟩,.s ⟨#[120,51,52]⟩,.s ⟨#[120,51,53]⟩,.s ⟨#[120,51,54]⟩,.s ⟨#[120,51,55]⟩,.s ⟨#[120,51,56]⟩,.s ⟨#[120,51,57]⟩,.s ⟨#[120,52,48]⟩,.s ⟨#[120,52,49]⟩,.s ⟨#[120,52,50]⟩,.s ⟨#[120,52,51]⟩,.s ⟨#[120,52,52]⟩,.s ⟨#[120,52,53]⟩,.s ⟨#[120,52,54]⟩,.s ⟨#[120,52,55]⟩,.s ⟨#[120,52,56]⟩,.s ⟨#[120,52,57]⟩,.s ⟨#[120,53,48]⟩,.s ⟨#[120,53,49]⟩,.s ⟨#[120,53,50]⟩,.s ⟨#[120,53,51]⟩,.s ⟨#[120,53,52]⟩,.s ⟨#[120,53,53]⟩,.s ⟨#[120,53,54]⟩,.s ⟨#[120,53,55]⟩,.s ⟨#[120,53,56]⟩,.s ⟨#[120,53,57]⟩,.s ⟨#[120,54,48]⟩,.s ⟨#[120,54,49]⟩,.s ⟨#[120,54,50]⟩,.s ⟨#[120,54,51]⟩,.s ⟨#[120,54,52]⟩,.s ⟨#[120,54,53]⟩,.s ⟨#[120,54,54]⟩,.s ⟨#[120,54,55]⟩,.s ⟨#[120,54,56]⟩,.s ⟨#[120,54,57]⟩,.s ⟨#[120,55,48]⟩,.s ⟨#[120,55,49]⟩,.s ⟨#[120,55,50]⟩,.s ⟨#[120,55,51]⟩,.s ⟨#[120,55,52]⟩,.s ⟨#[120,55,53]⟩,.s ⟨#[120,55,54]⟩,.s ⟨#[120,55,55]⟩,.s ⟨#[120,55,56]⟩,.s ⟨#[120,55,57]⟩,.s ⟨#[120,56,48]⟩,.s ⟨#[120,56,49]⟩,.s ⟨#[120,56,50]⟩,.s ⟨#[120,56,51]⟩,.s ⟨#[120,56,52]⟩,.s ⟨#[120,56,53]⟩,.s ⟨#[120,56,54]⟩,.s ⟨#[120,56,55]⟩,.s ⟨#[120,56,56]⟩,.s ⟨#[120,56,57]⟩,.s ⟨#[120,57,48]⟩,.s ⟨#[120,57,49]⟩,.s ⟨#[120,57,50]⟩,.s ⟨#[120,57,51]⟩,.s ⟨#[120,57,52]⟩,.s ⟨#[120,57,53]⟩,.s ⟨#[120,57,54]⟩,.s ⟨#[120,57,55]⟩,.s ⟨#[120,57,56]⟩,.s ⟨#[120,57,57]⟩,.us 3 4,.us 3 4,.us 3 4,.us 3 4,.us 3 4,.us 3 4,.us 3 4,.us 3 4,.us 3 4,.us 3 4,.us 3 4,.us 3 4,.us 3 4,.us 3 4,.us 3 4,.us 3 4,.us 3 4,.us 3 4,.us 3 4,.us 3 4,.us 3 4,.us 3 4,.us 3 4,.us 3 4,.us 3 4,.us 3 4,.us 3 4,.us 3 4,.us 3 4,.us 3 4,.us 3 4,.us 3 4,.us 3 4,.us 3 4,.us 3 4,.us 3 4,.us 3 4,.us 3 4,.us 3 4,.us 3 4,.us 3 4,.us 3 4,.us 3 4,.us 3 4,.us 3 4,.us 3 4,.us 3 4,.us 3 4,.us 3 4,.us 3 4,.us 3 4,.us 3 4,.us 3 4,.us 3 4,.us 3 4,.us 3 4,.us 3 4,.us 3 4,.us 3 4,.us 3 4,.us 3 4,.us 3 4,.us 3 4,.us 3 4,.us 3 4,.us 3 4,.us 3 4,.us 3 4,.us 3 4,.us 3 4,.us 3 4,.us 3 4,.us 3 4,.us 3 4,.us 3 4,.us 3 4,.us 3 4,.us 3 4,.us 3 4,.us 3 4,.us 3 4,.us 3 4,.us 3 4,.us 3 4,.us 3 4,.us 3 4,.us 3 4,.us 3 4,.us 3 4,.us 3 4,.us 3 4,.us 3 4,.us 3 4,.us 3 4,.us 3 4,.us 3 4,.us 3 4,.us 3 4,.us 3 4,.us 3 4,.us 3 4,.us 3 4,.us 3 4,.us 3 4,.us 3 4,.us 3 4,.us 3 4,.us 3 4,.us 3 4,.us 3 4,.us 3 4,.us 3 4,.us 3 4,.us 3 4,.us 3 4,.us 3 4,.us 3 4,.us 3 4,.us 3 4,.us 3 4,.us 3 4,.us 3 4,.us 3 4,.us 3 4,.us 3 4,.us 3 4,.us 3 4,.us 3 4,.us 3 4,.us 3 4,.us 3 4,.us 3 4,.us 3 4,.us 3 4,.us 3 4,.us 3 4,.us 3 4,.us 3 4,.us 3 4,.us 3 4,.us 3 4,.us 3 4,.us 3 4,.us 3 4,.us 3 4,.us 3 4,.us 3 4,.us 3 4,.us 3 4,.us 3 4,.us 3 4,.us 3 4,.us 3 4,.us 3 4,.us 3 4,.us 3 4,.us 3 4,.us 3 4,.us 3 4,.us 3 4,.us 3 4,.us 3 4,.us 3 4,.us 3 4,.us 3 4,.us 3 4,.us 3 4,.us 3 4,.us 3 4,.us 3 4,.us 3 4,.us 3 4,.us 3 4,.us 3 4,.us 3 4,.us 3 4,.us 3 4,.us 3 4,.us 3 4,.us 3 4,.us 3 4,.us 3 4,.us 3 4,.us 3 4,.us 3 4,.us 3 4,.us 3 4,.us 3 4,.us 3 4,.us 3 4,.us 3 4,.us 3 4,.us 3 4,.us 3 4,.us 3 4,.us 3 4,.us 3 4,.us 3 4,.us 3 4,.us 3 4,.us 3 4,.us 3 4,.us 3 4,.us 3 4,.us 3 4,.us 3 4,.us 3 4,.us 3 4,.us 3 4,.us 3 4,.us 3 4,.us 3 4,.us 3 4,.us 3 4,.us 3 4,.us 3 4,.us 3 4,.us 3 4,.us 3 4,.us 3 4,.us 3 4,.us 3 4,.us 3 4,.us 3 4,.us 3 4,.us 3 4,.us 3 4,.us 3 4,.us 3 4,.us 3 4,.us 3 4,.us 3 4,.us 3 4,.us 3 4,.us 3 4,.us 3 4,.us 3 4,.us 3 4,.us 3 4,.us 3 4,.us 3 4,.us 3 4,.us 3 4,.us 3 4,.us 3 4,.us 3 4,.us 3 4,.us 3 4,.us 3 4,.us 3 4,.us 3 4,.us 3 4,.us 3 4,.us 3 4,.us 3 4,.us 3 4,.us 3 4,.us 3 4,.us 3 4,.us 3 4,.us 3 4,.us 3 4,.us 3 4,.us 3 4,.us 3 4,.us 3 4,.us 3 4,.us 3 4,.us 3 4,.us 3 4,.us 3 4,.us 3 4,.us 3 4,.us 3 4,.us 3 4,.us 3 4,.us 3 4,.us 3 4,.us 3 4,.us 3 4,.us 3 4,.us 3 4,.us 3 4,.us 3 4,.us 3 4,.us 3 4,.us 3 4,.us 3 4,.us 3 4,.us 3 4,.us 3 4,.us 3 4,.us 3 4,.us 3 4,.us 3 4,.us 3 4,.us 3 4,.us 3 4,.us 3 4,.us 3 4,.us 3 4,.us 3 4,.us 3 4,.us 3 4,.us 3 4,.us 3 4,.us 3 4,.us 3 4,.us 3 4,.us 3 4,.us 3 4,.us 3 4,.us 3 4,.us 3 4,.us 3 4,.us 3 4,.us 3 4,.us 3 4,.us 3 4,.us 3 4,.us 3 4,.us 3 4,.us 3 4,.us 3 4,.us 3 4,.us 3 4,.us 3 4,.us 3 4,.us 3 4,.us 3 4,.us 3 4,.us 3 4,.us 3 4,.us 3 4,.us 3 4,.us 3 4,.us 3 4,.us 3 4,.us 3 4,.us 3 4,.us 3 4,.us 3 4,.us 3 4,.us 3 4,.us 3 4,.us 3 4,.us 3 4,.us 3 4,.us 3 4,.us 3 4,.us 3 4,.us 3 4,.us 3 4,.us 3 4,.us 3 4,.us 3 4,.us 3 4,.us 3 4,.us 3 4,.us 3 4,.us 3 4,.us 3 4,.us 3 4,.us 3 4,.us 3 4,.us 3 4,.us 3 4,.us 3 4,.us 3 4,.us 3 4,.us 3 4,.us 3 4,.us 3 4,.us 3 4,.us 3 4,.us 3 4,.us 3 4,.us 3 4,.us 3 4,.us 3 4,.us 3 4,.us 3 4,.us 3 4,.us 3 4,.us 3 4,.us 3 4,.us 3 4,.us 3 4,.us 3 4,.us 3 4,.us 3 4,.us 3 4,.us 3 4,.us 3 4,.us 3 4,.us 3 4,.us 3 4,.us 3 4,.us 3 4,.us 3 4,.us 3 4,.us 3 4,.us 3 4,.us 3 4,.us 3 4,.us 3 4,.us 3 4,.us 3 4,.us 3 4,.us 3 4])],4974000000⟩
theorem Be (hL:ae E) {pw:Int} (hP:aP E pw):aA prog E sH:=aB (aC hL hP (sG hL hP)) (by decide +kernel)
def sJ:List aM:=sH::sF
theorem sK (hL:ae E) {pw:Int} (hP:aP E pw):∀m∈sJ,aA prog E m:=au (Be hL hP) (sG hL hP)
def sL:aM:=⟨225,[.ag [.sl 3 0 2 2 (.ex 2),.sl 4 0 2 1 (.ex 2),.sl 12 0 1 7 (.ex 1)]],[(3,[.s ⟨#[120,115]⟩,.i .i64 2,.s ⟨#[105]⟩,.i .i64 0]),(4,[.i .i64 0,.i .i64 1]),(12,[.s ⟨#[97]⟩,.ns,.sl 9 0 2 4 (.ex 2),.i .i64 2,.i .i64 1,.i .i64 0,.i .i64 0]),(9,[.i .i64 18,.i .i64 (-1),.sl 5 0 2 1 (.ex 2),.i .i64 0,.i .i64 18,.i .i64 (-1),.sl 7 0 2 1 (.ex 2),.i .i64 0]),(5,[.i .i64 0,.i .i64 1]),(7,[.i .i64 0,.i .i64 1])],.tu [.ag [.sl 3975000769 0 4 2 .en,.sl 3975000075 0 2 1 .en,.sl 3975000159 0 1 7 .en],.i .i64 0],[(3975000769,[.s ⟨#[120,115]⟩,.i .i64 2,.s ⟨#[105]⟩,.i .i64 0,.s ⟨#[120,48]⟩,.i .i64 0,.s ⟨#[120,49]⟩,.i .i64 0]),(3975000075,[.i .i64 0,.i .i64 1]),(3975000159,[.s ⟨#[97]⟩,.ns,.sl 3975000801 0 4 4 .en,.i .i64 2,.i .i64 3,.i .i64 0,.i .i64 0]),(3975000801,[.i .i64 18,.i .i64 (-1),.sl 3975000407 0 2 1 .en,.i .i64 0,.i .i64 26,.i .i64 2,.sl 3975000448 0 2 1 (.ex 2),.i .i64 0,.i .i64 18,.i .i64 (-1),.sl 3975000645 0 2 1 .en,.i .i64 0,.i .i64 26,.i .i64 3,.sl 3975000686 0 2 1 (.ex 2),.i .i64 0]),(3975000407,[.i .i64 0,.i .i64 1]),(3975000448,[.i .i64 1,.i .i64 0]),(3975000645,[.i .i64 0,.i .i64 2]),(3975000686,[.i .i64 2,.i .i64 0])],3975000000⟩
theorem Bf (hL:ae E) {pw:Int} (hP:aP E pw):aA prog E sL:=aB (aC hL hP (sK hL hP)) (by decide +kernel)
def sM:List aM:=sL::sJ
theorem sN (hL:ae E) {pw:Int} (hP:aP E pw):∀m∈sM,aA prog E m:=au (Bf hL hP) (sK hL hP)
def sO:aM:=⟨220,[.ag [.sl 3 0 2 2 (.ex 2),.sl 4 0 2 1 (.ex 2),.sl 12 0 1 7 (.ex 1)]],[(3,[.s ⟨#[120,115]⟩,.i .i64 2,.s ⟨#[105]⟩,.i .i64 0]),(4,[.i .i64 0,.i .i64 1]),(12,[.s ⟨#[97]⟩,.ns,.sl 9 0 2 4 (.ex 2),.i .i64 2,.i .i64 1,.i .i64 0,.i .i64 0]),(9,[.i .i64 18,.i .i64 (-1),.sl 5 0 2 1 (.ex 2),.i .i64 0,.i .i64 18,.i .i64 (-1),.sl 7 0 2 1 (.ex 2),.i .i64 0]),(5,[.i .i64 0,.i .i64 1]),(7,[.i .i64 0,.i .i64 1])],.tu [.ag [.sl 2976000005 0 4 2 .en,.sl 2976000006 0 2 1 .en,.sl 2976000007 0 1 7 .en],.i .i64 0],[(2976000005,[.s ⟨#[120,115]⟩,.i .i64 2,.s ⟨#[105]⟩,.i .i64 0,.s ⟨#[120,48]⟩,.i .i64 0,.s ⟨#[120,49]⟩,.i .i64 0]),(2976000006,[.i .i64 0,.i .i64 1]),(2976000007,[.s ⟨#[97]⟩,.ns,.sl 2976000008 0 4 4 .en,.i .i64 2,.i .i64 3,.i .i64 0,.i .i64 0]),(2976000008,[.i .i64 18,.i .i64 (-1),.sl 2976000009 0 2 1 .en,.i .i64 0,.i .i64 26,.i .i64 2,.sl 2976000010 0 2 1 (.ex 2),.i .i64 0,.i .i64 18,.i .i64 (-1),.sl 2976000011 0 2 1 .en,.i .i64 0,.i .i64 26,.i .i64 3,.sl 2976000012 0 2 1 (.ex 2),.i .i64 0]),(2976000009,[.i .i64 0,.i .i64 1]),(2976000010,[.i .i64 1,.i .i64 0]),(2976000011,[.i .i64 0,.i .i64 2]),(2976000012,[.i .i64 2,.i .i64 0])],2976000000⟩
theorem Bg (hL:ae E) {pw:Int} (hP:aP E pw):aA prog E sO:=aB (aC hL hP (sN hL hP)) (by decide +kernel)
def sP:List aM:=sO::sM
theorem sQ (hL:ae E) {pw:Int} (hP:aP E pw):∀m∈sP,aA prog E m:=au (Bg hL hP) (sN hL hP)
def sR:aM:=⟨34,[.ag [.sl 1977000006 0 4 2 .en,.sl 1977000007 0 2 1 .en,.sl 1977000008 0 1 7 .en]],[(1977000006,[.s ⟨#[120,115]⟩,.i .i64 2,.s ⟨#[105]⟩,.i .i64 0,.s ⟨#[120,48]⟩,.i .i64 0,.s ⟨#[120,49]⟩,.i .i64 0]),(1977000007,[.i .i64 0,.i .i64 1]),(1977000008,[.s ⟨#[97]⟩,.ns,.sl 1977000009 0 4 4 .en,.i .i64 2,.i .i64 3,.i .i64 0,.i .i64 0]),(1977000009,[.i .i64 18,.i .i64 (-1),.sl 1977000010 0 2 1 .en,.i .i64 0,.i .i64 26,.i .i64 2,.sl 1977000011 0 2 1 (.ex 2),.i .i64 0,.i .i64 18,.i .i64 (-1),.sl 1977000012 0 2 1 .en,.i .i64 0,.i .i64 26,.i .i64 3,.sl 1977000013 0 2 1 (.ex 2),.i .i64 0]),(1977000010,[.i .i64 0,.i .i64 1]),(1977000011,[.i .i64 1,.i .i64 0]),(1977000012,[.i .i64 0,.i .i64 2]),(1977000013,[.i .i64 2,.i .i64 0])],.b true,[],6969000000⟩
theorem Bh (hL:ae E) {pw:Int} (hP:aP E pw):aA prog E sR:=aB (aC hL hP (sQ hL hP)) (by decide +kernel)
def sS:List aM:=sR::sP
theorem sT (hL:ae E) {pw:Int} (hP:aP E pw):∀m∈sS,aA prog E m:=au (Bh hL hP) (sQ hL hP)
def sU:aM:=⟨23,[.ag [.sl 1977000006 0 4 2 .en,.sl 1977000007 0 2 1 .en,.sl 1977000008 0 1 7 .en]],[(1977000006,[.s ⟨#[120,115]⟩,.i .i64 2,.s ⟨#[105]⟩,.i .i64 0,.s ⟨#[120,48]⟩,.i .i64 0,.s ⟨#[120,49]⟩,.i .i64 0]),(1977000007,[.i .i64 0,.i .i64 1]),(1977000008,[.s ⟨#[97]⟩,.ns,.sl 1977000009 0 4 4 .en,.i .i64 2,.i .i64 3,.i .i64 0,.i .i64 0]),(1977000009,[.i .i64 18,.i .i64 (-1),.sl 1977000010 0 2 1 .en,.i .i64 0,.i .i64 26,.i .i64 2,.sl 1977000011 0 2 1 (.ex 2),.i .i64 0,.i .i64 18,.i .i64 (-1),.sl 1977000012 0 2 1 .en,.i .i64 0,.i .i64 26,.i .i64 3,.sl 1977000013 0 2 1 (.ex 2),.i .i64 0]),(1977000010,[.i .i64 0,.i .i64 1]),(1977000011,[.i .i64 1,.i .i64 0]),(1977000012,[.i .i64 0,.i .i64 2]),(1977000013,[.i .i64 2,.i .i64 0])],.i .i64 0,[],5970000000⟩
theorem Bi (hL:ae E) {pw:Int} (hP:aP E pw):aA prog E sU:=aB (aC hL hP (sT hL hP)) (by decide +kernel)
def sV:List aM:=sU::sS
theorem sW (hL:ae E) {pw:Int} (hP:aP E pw):∀m∈sV,aA prog E m:=au (Bi hL hP) (sT hL hP)
def sX:aM:=⟨102,[.ag [.sl 1977000006 0 4 2 .en,.sl 1977000007 0 2 1 .en,.sl 1977000008 0 1 7 .en]],[(1977000006,[.s ⟨#[120,115]⟩,.i .i64 2,.s ⟨#[105]⟩,.i .i64 0,.s ⟨#[120,48]⟩,.i .i64 0,.s ⟨#[120,49]⟩,.i .i64 0]),(1977000007,[.i .i64 0,.i .i64 1]),(1977000008,[.s ⟨#[97]⟩,.ns,.sl 1977000009 0 4 4 .en,.i .i64 2,.i .i64 3,.i .i64 0,.i .i64 0]),(1977000009,[.i .i64 18,.i .i64 (-1),.sl 1977000010 0 2 1 .en,.i .i64 0,.i .i64 26,.i .i64 2,.sl 1977000011 0 2 1 (.ex 2),.i .i64 0,.i .i64 18,.i .i64 (-1),.sl 1977000012 0 2 1 .en,.i .i64 0,.i .i64 26,.i .i64 3,.sl 1977000013 0 2 1 (.ex 2),.i .i64 0]),(1977000010,[.i .i64 0,.i .i64 1]),(1977000011,[.i .i64 1,.i .i64 0]),(1977000012,[.i .i64 0,.i .i64 2]),(1977000013,[.i .i64 2,.i .i64 0])],.b true,[],4971000000⟩
theorem Bj (hL:ae E) {pw:Int} (hP:aP E pw):aA prog E sX:=aB (aC hL hP (sW hL hP)) (by decide +kernel)
def sY:List aM:=sX::sV
theorem sZ (hL:ae E) {pw:Int} (hP:aP E pw):∀m∈sY,aA prog E m:=au (Bj hL hP) (sW hL hP)
def s6:aM:=⟨103,[.ag [.sl 1977000006 0 4 2 .en,.sl 1977000007 0 2 1 .en,.sl 1977000008 0 1 7 .en]],[(1977000006,[.s ⟨#[120,115]⟩,.i .i64 2,.s ⟨#[105]⟩,.i .i64 0,.s ⟨#[120,48]⟩,.i .i64 0,.s ⟨#[120,49]⟩,.i .i64 0]),(1977000007,[.i .i64 0,.i .i64 1]),(1977000008,[.s ⟨#[97]⟩,.ns,.sl 1977000009 0 4 4 .en,.i .i64 2,.i .i64 3,.i .i64 0,.i .i64 0]),(1977000009,[.i .i64 18,.i .i64 (-1),.sl 1977000010 0 2 1 .en,.i .i64 0,.i .i64 26,.i .i64 2,.sl 1977000011 0 2 1 (.ex 2),.i .i64 0,.i .i64 18,.i .i64 (-1),.sl 1977000012 0 2 1 .en,.i .i64 0,.i .i64 26,.i .i64 3,.sl 1977000013 0 2 1 (.ex 2),.i .i64 0]),(1977000010,[.i .i64 0,.i .i64 1]),(1977000011,[.i .i64 1,.i .i64 0]),(1977000012,[.i .i64 0,.i .i64 2]),(1977000013,[.i .i64 2,.i .i64 0])],.sl 4968000005 0 1 1 (.ex 1),[(4968000005,[.ns])],4968000000⟩
theorem Bk (hL:ae E) {pw:Int} (hP:aP E pw):aA prog E s6:=aB (aC hL hP (sZ hL hP)) (by decide +kernel)
def s7:List aM:=s6::sY
theorem s8 (hL:ae E) {pw:Int} (hP:aP E pw):∀m∈s7,aA prog E m:=au (Bk hL hP) (sZ hL hP)
def s9:aM:=⟨124,[.ag [.sl 1977000006 0 4 2 .en,.sl 1977000007 0 2 1 .en,.sl 1977000008 0 1 7 .en]],[(1977000006,[.s ⟨#[120,115]⟩,.i .i64 2,.s ⟨#[105]⟩,.i .i64 0,.s ⟨#[120,48]⟩,.i .i64 0,.s ⟨#[120,49]⟩,.i .i64 0]),(1977000007,[.i .i64 0,.i .i64 1]),(1977000008,[.s ⟨#[97]⟩,.ns,.sl 1977000009 0 4 4 .en,.i .i64 2,.i .i64 3,.i .i64 0,.i .i64 0]),(1977000009,[.i .i64 18,.i .i64 (-1),.sl 1977000010 0 2 1 .en,.i .i64 0,.i .i64 26,.i .i64 2,.sl 1977000011 0 2 1 (.ex 2),.i .i64 0,.i .i64 18,.i .i64 (-1),.sl 1977000012 0 2 1 .en,.i .i64 0,.i .i64 26,.i .i64 3,.sl 1977000013 0 2 1 (.ex 2),.i .i64 0]),(1977000010,[.i .i64 0,.i .i64 1]),(1977000011,[.i .i64 1,.i .i64 0]),(1977000012,[.i .i64 0,.i .i64 2]),(1977000013,[.i .i64 2,.i .i64 0])],.sl 4967000064 0 1 1 .en,[(4967000064,[.i .i64 0])],4967000000⟩
theorem Bl (hL:ae E) {pw:Int} (hP:aP E pw):aA prog E s9:=aB (aC hL hP (s8 hL hP)) (by decide +kernel)
def ta:List aM:=s9::s7
theorem tb (hL:ae E) {pw:Int} (hP:aP E pw):∀m∈ta,aA prog E m:=au (Bl hL hP) (s8 hL hP)
def tc:aM:=⟨98,[.sl 4966000012 0 1 1 .en,.sl 4966000032 0 1 1 (.ex 1),.i .i64 1],[(4966000012,[.i .i64 0]),(4966000032,[.ns])],.sl 5965000090 0 1 1 (.ex 1),[(5965000090,[.i .i64 (-1)])],5965000000⟩
theorem Bm (hL:ae E) {pw:Int} (hP:aP E pw):aA prog E tc:=aB (aC hL hP (tb hL hP)) (by decide +kernel)
def td:List aM:=tc::ta
theorem te (hL:ae E) {pw:Int} (hP:aP E pw):∀m∈td,aA prog E m:=au (Bm hL hP) (tb hL hP)
def tf:aM:=⟨84,[.ag [.sl 1977000006 0 4 2 .en,.sl 1977000007 0 2 1 .en,.sl 1977000008 0 1 7 .en]],[(1977000006,[.s ⟨#[120,115]⟩,.i .i64 2,.s ⟨#[105]⟩,.i .i64 0,.s ⟨#[120,48]⟩,.i .i64 0,.s ⟨#[120,49]⟩,.i .i64 0]),(1977000007,[.i .i64 0,.i .i64 1]),(1977000008,[.s ⟨#[97]⟩,.ns,.sl 1977000009 0 4 4 .en,.i .i64 2,.i .i64 3,.i .i64 0,.i .i64 0]),(1977000009,[.i .i64 18,.i .i64 (-1),.sl 1977000010 0 2 1 .en,.i .i64 0,.i .i64 26,.i .i64 2,.sl 1977000011 0 2 1 (.ex 2),.i .i64 0,.i .i64 18,.i .i64 (-1),.sl 1977000012 0 2 1 .en,.i .i64 0,.i .i64 26,.i .i64 3,.sl 1977000013 0 2 1 (.ex 2),.i .i64 0]),(1977000010,[.i .i64 0,.i .i64 1]),(1977000011,[.i .i64 1,.i .i64 0]),(1977000012,[.i .i64 0,.i .i64 2]),(1977000013,[.i .i64 2,.i .i64 0])],.tu [.p 4966000046 0,.i .i64 0],[(4966000046,[.sl 4966000048 0 1 1 (.ex 1),.sl 4966000135 0 1 1 (.ex 1),.sl 4966000042 0 1 1 (.ex 1),.sl 4966000044 0 1 1 (.ex 1)]),(4966000048,[.i .i64 (-1)]),(4966000135,[.i .i64 0]),(4966000042,[.ns]),(4966000044,[.ns])],4966000000⟩
theorem Bn (hL:ae E) {pw:Int} (hP:aP E pw):aA prog E tf:=aB (aC hL hP (te hL hP)) (by decide +kernel)
def tg:List aM:=tf::td
theorem th (hL:ae E) {pw:Int} (hP:aP E pw):∀m∈tg,aA prog E m:=au (Bn hL hP) (te hL hP)
def tj:aM:=⟨85,[.ag [.sl 1977000006 0 4 2 .en,.sl 1977000007 0 2 1 .en,.sl 1977000008 0 1 7 .en]],[(1977000006,[.s ⟨#[120,115]⟩,.i .i64 2,.s ⟨#[105]⟩,.i .i64 0,.s ⟨#[120,48]⟩,.i .i64 0,.s ⟨#[120,49]⟩,.i .i64 0]),(1977000007,[.i .i64 0,.i .i64 1]),(1977000008,[.s ⟨#[97]⟩,.ns,.sl 1977000009 0 4 4 .en,.i .i64 2,.i .i64 3,.i .i64 0,.i .i64 0]),(1977000009,[.i .i64 18,.i .i64 (-1),.sl 1977000010 0 2 1 .en,.i .i64 0,.i .i64 26,.i .i64 2,.sl 1977000011 0 2 1 (.ex 2),.i .i64 0,.i .i64 18,.i .i64 (-1),.sl 1977000012 0 2 1 .en,.i .i64 0,.i .i64 26,.i .i64 3,.sl 1977000013 0 2 1 (.ex 2),.i .i64 0]),(1977000010,[.i .i64 0,.i .i64 1]),(1977000011,[.i .i64 1,.i .i64 0]),(1977000012,[.i .i64 0,.i .i64 2]),(1977000013,[.i .i64 2,.i .i64 0])],.sl 4964000189 0 4 2 .en,[(4964000189,[.i .i64 (-1),.i .i64 0,.i .i64 (-1),.i .i64 0,.i .i64 0,.i .i64 1,.i .i64 0,.i .i64 3])],4964000000⟩
theorem Bo (hL:ae E) {pw:Int} (hP:aP E pw):aA prog E tj:=aB (aC hL hP (th hL hP)) (by decide +kernel)
def tk:List aM:=tj::tg
theorem tm (hL:ae E) {pw:Int} (hP:aP E pw):∀m∈tk,aA prog E m:=au (Bo hL hP) (th hL hP)
def tn:aM:=⟨95,[.ag [.sl 1977000006 0 4 2 .en,.sl 1977000007 0 2 1 .en,.sl 1977000008 0 1 7 .en]],[(1977000006,[.s ⟨#[120,115]⟩,.i .i64 2,.s ⟨#[105]⟩,.i .i64 0,.s ⟨#[120,48]⟩,.i .i64 0,.s ⟨#[120,49]⟩,.i .i64 0]),(1977000007,[.i .i64 0,.i .i64 1]),(1977000008,[.s ⟨#[97]⟩,.ns,.sl 1977000009 0 4 4 .en,.i .i64 2,.i .i64 3,.i .i64 0,.i .i64 0]),(1977000009,[.i .i64 18,.i .i64 (-1),.sl 1977000010 0 2 1 .en,.i .i64 0,.i .i64 26,.i .i64 2,.sl 1977000011 0 2 1 (.ex 2),.i .i64 0,.i .i64 18,.i .i64 (-1),.sl 1977000012 0 2 1 .en,.i .i64 0,.i .i64 26,.i .i64 3,.sl 1977000013 0 2 1 (.ex 2),.i .i64 0]),(1977000010,[.i .i64 0,.i .i64 1]),(1977000011,[.i .i64 1,.i .i64 0]),(1977000012,[.i .i64 0,.i .i64 2]),(1977000013,[.i .i64 2,.i .i64 0])],.i .i64 0,[],3972000000⟩
theorem Bp (hL:ae E) {pw:Int} (hP:aP E pw):aA prog E tn:=aB (aC hL hP (tm hL hP)) (by decide +kernel)
def tp:List aM:=tn::tk
theorem tq (hL:ae E) {pw:Int} (hP:aP E pw):∀m∈tp,aA prog E m:=au (Bp hL hP) (tm hL hP)
def tt:aM:=⟨221,[.ag [.sl 1977000006 0 4 2 .en,.sl 1977000007 0 2 1 .en,.sl 1977000008 0 1 7 .en]],[(1977000006,[.s ⟨#[120,115]⟩,.i .i64 2,.s ⟨#[105]⟩,.i .i64 0,.s ⟨#[120,48]⟩,.i .i64 0,.s ⟨#[120,49]⟩,.i .i64 0]),(1977000007,[.i .i64 0,.i .i64 1]),(1977000008,[.s ⟨#[97]⟩,.ns,.sl 1977000009 0 4 4 .en,.i .i64 2,.i .i64 3,.i .i64 0,.i .i64 0]),(1977000009,[.i .i64 18,.i .i64 (-1),.sl 1977000010 0 2 1 .en,.i .i64 0,.i .i64 26,.i .i64 2,.sl 1977000011 0 2 1 (.ex 2),.i .i64 0,.i .i64 18,.i .i64 (-1),.sl 1977000012 0 2 1 .en,.i .i64 0,.i .i64 26,.i .i64 3,.sl 1977000013 0 2 1 (.ex 2),.i .i64 0]),(1977000010,[.i .i64 0,.i .i64 1]),(1977000011,[.i .i64 1,.i .i64 0]),(1977000012,[.i .i64 0,.i .i64 2]),(1977000013,[.i .i64 2,.i .i64 0])],.tu [.sl 2973000460 0 4 2 .en,.i .i64 0],[(2973000460,[.i .i64 0,.i .i64 64,.i .i64 (-9223372036854775808),.i .i64 9223372036854775807,.i .i64 0,.i .i64 63,.i .i64 0,.i .i64 63])],2973000000⟩
theorem Bq (hL:ae E) {pw:Int} (hP:aP E pw):aA prog E tt:=aB (aC hL hP (tq hL hP)) (by decide +kernel)
def tv:List aM:=tt::tp
theorem tw (hL:ae E) {pw:Int} (hP:aP E pw):∀m∈tv,aA prog E m:=au (Bq hL hP) (tq hL hP)
def tx:aM:=⟨218,[.ag [.sl 3 0 2 2 (.ex 2),.sl 4 0 2 1 (.ex 2),.sl 12 0 1 7 (.ex 1)]],[(3,[.s ⟨#[120,115]⟩,.i .i64 2,.s ⟨#[105]⟩,.i .i64 0]),(4,[.i .i64 0,.i .i64 1]),(12,[.s ⟨#[97]⟩,.ns,.sl 9 0 2 4 (.ex 2),.i .i64 2,.i .i64 1,.i .i64 0,.i .i64 0]),(9,[.i .i64 18,.i .i64 (-1),.sl 5 0 2 1 (.ex 2),.i .i64 0,.i .i64 18,.i .i64 (-1),.sl 7 0 2 1 (.ex 2),.i .i64 0]),(5,[.i .i64 0,.i .i64 1]),(7,[.i .i64 0,.i .i64 1])],.tu [.ag [.sl 1977000006 0 4 2 .en,.sl 1977000007 0 2 1 .en,.sl 1977000008 0 1 7 .en],.sl 1977000024 0 4 2 .en,.i .i64 0],[(1977000006,[.s ⟨#[120,115]⟩,.i .i64 2,.s ⟨#[105]⟩,.i .i64 0,.s ⟨#[120,48]⟩,.i .i64 0,.s ⟨#[120,49]⟩,.i .i64 0]),(1977000007,[.i .i64 0,.i .i64 1]),(1977000008,[.s ⟨#[97]⟩,.ns,.sl 1977000009 0 4 4 .en,.i .i64 2,.i .i64 3,.i .i64 0,.i .i64 0]),(1977000009,[.i .i64 18,.i .i64 (-1),.sl 1977000010 0 2 1 .en,.i .i64 0,.i .i64 26,.i .i64 2,.sl 1977000011 0 2 1 (.ex 2),.i .i64 0,.i .i64 18,.i .i64 (-1),.sl 1977000012 0 2 1 .en,.i .i64 0,.i .i64 26,.i .i64 3,.sl 1977000013 0 2 1 (.ex 2),.i .i64 0]),(1977000010,[.i .i64 0,.i .i64 1]),(1977000011,[.i .i64 1,.i .i64 0]),(1977000012,[.i .i64 0,.i .i64 2]),(1977000013,[.i .i64 2,.i .i64 0]),(1977000024,[.i .i64 0,.i .i64 64,.i .i64 (-9223372036854775808),.i .i64 9223372036854775807,.i .i64 0,.i .i64 63,.i .i64 0,.i .i64 63])],1977000000⟩
theorem Br (hL:ae E) {pw:Int} (hP:aP E pw):aA prog E tx:=aB (aC hL hP (tw hL hP)) (by decide +kernel)
def tz:List aM:=tx::tv
theorem tA (hL:ae E) {pw:Int} (hP:aP E pw):∀m∈tz,aA prog E m:=au (Br hL hP) (tw hL hP)
def tB:aM:=⟨34,[.ag [.sl 1963000005 0 4 2 .en,.sl 1963000006 0 2 1 .en,.sl 1963000007 0 1 7 .en]],[(1963000005,[.s ⟨#[120,115]⟩,.i .i64 2,.s ⟨#[105]⟩,.i .i64 0,.s ⟨#[120,48]⟩,.i .i64 0,.s ⟨#[120,49]⟩,.i .i64 0]),(1963000006,[.i .i64 0,.i .i64 1]),(1963000007,[.s ⟨#[97]⟩,.ns,.sl 1963000008 0 4 4 .en,.i .i64 2,.i .i64 3,.i .i64 0,.i .i64 0]),(1963000008,[.i .i64 18,.i .i64 (-1),.sl 1963000009 0 2 1 .en,.i .i64 0,.i .i64 26,.i .i64 2,.sl 1963000010 0 2 1 (.ex 2),.i .i64 0,.i .i64 18,.i .i64 (-1),.sl 1963000011 0 2 1 .en,.i .i64 0,.i .i64 26,.i .i64 3,.sl 1963000012 0 2 1 (.ex 2),.i .i64 0]),(1963000009,[.i .i64 0,.i .i64 1]),(1963000010,[.i .i64 1,.i .i64 0]),(1963000011,[.i .i64 0,.i .i64 2]),(1963000012,[.i .i64 2,.i .i64 0])],.b true,[],6958000000⟩
theorem Bs (hL:ae E) {pw:Int} (hP:aP E pw):aA prog E tB:=aB (aC hL hP (tA hL hP)) (by decide +kernel)
def tC:List aM:=tB::tz
theorem tD (hL:ae E) {pw:Int} (hP:aP E pw):∀m∈tC,aA prog E m:=au (Bs hL hP) (tA hL hP)
def tE:aM:=⟨23,[.ag [.sl 1963000005 0 4 2 .en,.sl 1963000006 0 2 1 .en,.sl 1963000007 0 1 7 .en]],[(1963000005,[.s ⟨#[120,115]⟩,.i .i64 2,.s ⟨#[105]⟩,.i .i64 0,.s ⟨#[120,48]⟩,.i .i64 0,.s ⟨#[120,49]⟩,.i .i64 0]),(1963000006,[.i .i64 0,.i .i64 1]),(1963000007,[.s ⟨#[97]⟩,.ns,.sl 1963000008 0 4 4 .en,.i .i64 2,.i .i64 3,.i .i64 0,.i .i64 0]),(1963000008,[.i .i64 18,.i .i64 (-1),.sl 1963000009 0 2 1 .en,.i .i64 0,.i .i64 26,.i .i64 2,.sl 1963000010 0 2 1 (.ex 2),.i .i64 0,.i .i64 18,.i .i64 (-1),.sl 1963000011 0 2 1 .en,.i .i64 0,.i .i64 26,.i .i64 3,.sl 1963000012 0 2 1 (.ex 2),.i .i64 0]),(1963000009,[.i .i64 0,.i .i64 1]),(1963000010,[.i .i64 1,.i .i64 0]),(1963000011,[.i .i64 0,.i .i64 2]),(1963000012,[.i .i64 2,.i .i64 0])],.i .i64 0,[],5959000000⟩
theorem Bt (hL:ae E) {pw:Int} (hP:aP E pw):aA prog E tE:=aB (aC hL hP (tD hL hP)) (by decide +kernel)
def tF:List aM:=tE::tC
theorem tG (hL:ae E) {pw:Int} (hP:aP E pw):∀m∈tF,aA prog E m:=au (Bt hL hP) (tD hL hP)
def tH:aM:=⟨102,[.ag [.sl 1963000005 0 4 2 .en,.sl 1963000006 0 2 1 .en,.sl 1963000007 0 1 7 .en]],[(1963000005,[.s ⟨#[120,115]⟩,.i .i64 2,.s ⟨#[105]⟩,.i .i64 0,.s ⟨#[120,48]⟩,.i .i64 0,.s ⟨#[120,49]⟩,.i .i64 0]),(1963000006,[.i .i64 0,.i .i64 1]),(1963000007,[.s ⟨#[97]⟩,.ns,.sl 1963000008 0 4 4 .en,.i .i64 2,.i .i64 3,.i .i64 0,.i .i64 0]),(1963000008,[.i .i64 18,.i .i64 (-1),.sl 1963000009 0 2 1 .en,.i .i64 0,.i .i64 26,.i .i64 2,.sl 1963000010 0 2 1 (.ex 2),.i .i64 0,.i .i64 18,.i .i64 (-1),.sl 1963000011 0 2 1 .en,.i .i64 0,.i .i64 26,.i .i64 3,.sl 1963000012 0 2 1 (.ex 2),.i .i64 0]),(1963000009,[.i .i64 0,.i .i64 1]),(1963000010,[.i .i64 1,.i .i64 0]),(1963000011,[.i .i64 0,.i .i64 2]),(1963000012,[.i .i64 2,.i .i64 0])],.b true,[],4960000000⟩
theorem Bu (hL:ae E) {pw:Int} (hP:aP E pw):aA prog E tH:=aB (aC hL hP (tG hL hP)) (by decide +kernel)
def tI:List aM:=tH::tF
theorem tJ (hL:ae E) {pw:Int} (hP:aP E pw):∀m∈tI,aA prog E m:=au (Bu hL hP) (tG hL hP)
def tK:aM:=⟨103,[.ag [.sl 1963000005 0 4 2 .en,.sl 1963000006 0 2 1 .en,.sl 1963000007 0 1 7 .en]],[(1963000005,[.s ⟨#[120,115]⟩,.i .i64 2,.s ⟨#[105]⟩,.i .i64 0,.s ⟨#[120,48]⟩,.i .i64 0,.s ⟨#[120,49]⟩,.i .i64 0]),(1963000006,[.i .i64 0,.i .i64 1]),(1963000007,[.s ⟨#[97]⟩,.ns,.sl 1963000008 0 4 4 .en,.i .i64 2,.i .i64 3,.i .i64 0,.i .i64 0]),(1963000008,[.i .i64 18,.i .i64 (-1),.sl 1963000009 0 2 1 .en,.i .i64 0,.i .i64 26,.i .i64 2,.sl 1963000010 0 2 1 (.ex 2),.i .i64 0,.i .i64 18,.i .i64 (-1),.sl 1963000011 0 2 1 .en,.i .i64 0,.i .i64 26,.i .i64 3,.sl 1963000012 0 2 1 (.ex 2),.i .i64 0]),(1963000009,[.i .i64 0,.i .i64 1]),(1963000010,[.i .i64 1,.i .i64 0]),(1963000011,[.i .i64 0,.i .i64 2]),(1963000012,[.i .i64 2,.i .i64 0])],.sl 4957000005 0 1 1 (.ex 1),[(4957000005,[.ns])],4957000000⟩
theorem Bv (hL:ae E) {pw:Int} (hP:aP E pw):aA prog E tK:=aB (aC hL hP (tJ hL hP)) (by decide +kernel)
def tL:List aM:=tK::tI
theorem tM (hL:ae E) {pw:Int} (hP:aP E pw):∀m∈tL,aA prog E m:=au (Bv hL hP) (tJ hL hP)
def tN:aM:=⟨124,[.ag [.sl 1963000005 0 4 2 .en,.sl 1963000006 0 2 1 .en,.sl 1963000007 0 1 7 .en]],[(1963000005,[.s ⟨#[120,115]⟩,.i .i64 2,.s ⟨#[105]⟩,.i .i64 0,.s ⟨#[120,48]⟩,.i .i64 0,.s ⟨#[120,49]⟩,.i .i64 0]),(1963000006,[.i .i64 0,.i .i64 1]),(1963000007,[.s ⟨#[97]⟩,.ns,.sl 1963000008 0 4 4 .en,.i .i64 2,.i .i64 3,.i .i64 0,.i .i64 0]),(1963000008,[.i .i64 18,.i .i64 (-1),.sl 1963000009 0 2 1 .en,.i .i64 0,.i .i64 26,.i .i64 2,.sl 1963000010 0 2 1 (.ex 2),.i .i64 0,.i .i64 18,.i .i64 (-1),.sl 1963000011 0 2 1 .en,.i .i64 0,.i .i64 26,.i .i64 3,.sl 1963000012 0 2 1 (.ex 2),.i .i64 0]),(1963000009,[.i .i64 0,.i .i64 1]),(1963000010,[.i .i64 1,.i .i64 0]),(1963000011,[.i .i64 0,.i .i64 2]),(1963000012,[.i .i64 2,.i .i64 0])],.sl 4956000064 0 1 1 .en,[(4956000064,[.i .i64 0])],4956000000⟩
theorem Bw (hL:ae E) {pw:Int} (hP:aP E pw):aA prog E tN:=aB (aC hL hP (tM hL hP)) (by decide +kernel)
def tO:List aM:=tN::tL
theorem tP (hL:ae E) {pw:Int} (hP:aP E pw):∀m∈tO,aA prog E m:=au (Bw hL hP) (tM hL hP)
def tQ:aM:=⟨98,[.sl 4955000012 0 1 1 .en,.sl 4955000032 0 1 1 (.ex 1),.i .i64 1],[(4955000012,[.i .i64 0]),(4955000032,[.ns])],.sl 5954000090 0 1 1 (.ex 1),[(5954000090,[.i .i64 (-1)])],5954000000⟩
theorem Bx (hL:ae E) {pw:Int} (hP:aP E pw):aA prog E tQ:=aB (aC hL hP (tP hL hP)) (by decide +kernel)
def tR:List aM:=tQ::tO
theorem tS (hL:ae E) {pw:Int} (hP:aP E pw):∀m∈tR,aA prog E m:=au (Bx hL hP) (tP hL hP)
def tT:aM:=⟨84,[.ag [.sl 1963000005 0 4 2 .en,.sl 1963000006 0 2 1 .en,.sl 1963000007 0 1 7 .en]],[(1963000005,[.s ⟨#[120,115]⟩,.i .i64 2,.s ⟨#[105]⟩,.i .i64 0,.s ⟨#[120,48]⟩,.i .i64 0,.s ⟨#[120,49]⟩,.i .i64 0]),(1963000006,[.i .i64 0,.i .i64 1]),(1963000007,[.s ⟨#[97]⟩,.ns,.sl 1963000008 0 4 4 .en,.i .i64 2,.i .i64 3,.i .i64 0,.i .i64 0]),(1963000008,[.i .i64 18,.i .i64 (-1),.sl 1963000009 0 2 1 .en,.i .i64 0,.i .i64 26,.i .i64 2,.sl 1963000010 0 2 1 (.ex 2),.i .i64 0,.i .i64 18,.i .i64 (-1),.sl 1963000011 0 2 1 .en,.i .i64 0,.i .i64 26,.i .i64 3,.sl 1963000012 0 2 1 (.ex 2),.i .i64 0]),(1963000009,[.i .i64 0,.i .i64 1]),(1963000010,[.i .i64 1,.i .i64 0]),(1963000011,[.i .i64 0,.i .i64 2]),(1963000012,[.i .i64 2,.i .i64 0])],.tu [.p 4955000046 0,.i .i64 0],[(4955000046,[.sl 4955000048 0 1 1 (.ex 1),.sl 4955000135 0 1 1 (.ex 1),.sl 4955000042 0 1 1 (.ex 1),.sl 4955000044 0 1 1 (.ex 1)]),(4955000048,[.i .i64 (-1)]),(4955000135,[.i .i64 0]),(4955000042,[.ns]),(4955000044,[.ns])],4955000000⟩
theorem Bz (hL:ae E) {pw:Int} (hP:aP E pw):aA prog E tT:=aB (aC hL hP (tS hL hP)) (by decide +kernel)
def tU:List aM:=tT::tR
theorem tV (hL:ae E) {pw:Int} (hP:aP E pw):∀m∈tU,aA prog E m:=au (Bz hL hP) (tS hL hP)
def tW:aM:=⟨85,[.ag [.sl 1963000005 0 4 2 .en,.sl 1963000006 0 2 1 .en,.sl 1963000007 0 1 7 .en]],[(1963000005,[.s ⟨#[120,115]⟩,.i .i64 2,.s ⟨#[105]⟩,.i .i64 0,.s ⟨#[120,48]⟩,.i .i64 0,.s ⟨#[120,49]⟩,.i .i64 0]),(1963000006,[.i .i64 0,.i .i64 1]),(1963000007,[.s ⟨#[97]⟩,.ns,.sl 1963000008 0 4 4 .en,.i .i64 2,.i .i64 3,.i .i64 0,.i .i64 0]),(1963000008,[.i .i64 18,.i .i64 (-1),.sl 1963000009 0 2 1 .en,.i .i64 0,.i .i64 26,.i .i64 2,.sl 1963000010 0 2 1 (.ex 2),.i .i64 0,.i .i64 18,.i .i64 (-1),.sl 1963000011 0 2 1 .en,.i .i64 0,.i .i64 26,.i .i64 3,.sl 1963000012 0 2 1 (.ex 2),.i .i64 0]),(1963000009,[.i .i64 0,.i .i64 1]),(1963000010,[.i .i64 1,.i .i64 0]),(1963000011,[.i .i64 0,.i .i64 2]),(1963000012,[.i .i64 2,.i .i64 0])],.sl 4953000189 0 4 2 .en,[(4953000189,[.i .i64 (-1),.i .i64 0,.i .i64 (-1),.i .i64 0,.i .i64 0,.i .i64 1,.i .i64 0,.i .i64 3])],4953000000⟩
theorem BA (hL:ae E) {pw:Int} (hP:aP E pw):aA prog E tW:=aB (aC hL hP (tV hL hP)) (by decide +kernel)
def tX:List aM:=tW::tU
theorem tY (hL:ae E) {pw:Int} (hP:aP E pw):∀m∈tX,aA prog E m:=au (BA hL hP) (tV hL hP)
def tZ:aM:=⟨95,[.ag [.sl 1963000005 0 4 2 .en,.sl 1963000006 0 2 1 .en,.sl 1963000007 0 1 7 .en]],[(1963000005,[.s ⟨#[120,115]⟩,.i .i64 2,.s ⟨#[105]⟩,.i .i64 0,.s ⟨#[120,48]⟩,.i .i64 0,.s ⟨#[120,49]⟩,.i .i64 0]),(1963000006,[.i .i64 0,.i .i64 1]),(1963000007,[.s ⟨#[97]⟩,.ns,.sl 1963000008 0 4 4 .en,.i .i64 2,.i .i64 3,.i .i64 0,.i .i64 0]),(1963000008,[.i .i64 18,.i .i64 (-1),.sl 1963000009 0 2 1 .en,.i .i64 0,.i .i64 26,.i .i64 2,.sl 1963000010 0 2 1 (.ex 2),.i .i64 0,.i .i64 18,.i .i64 (-1),.sl 1963000011 0 2 1 .en,.i .i64 0,.i .i64 26,.i .i64 3,.sl 1963000012 0 2 1 (.ex 2),.i .i64 0]),(1963000009,[.i .i64 0,.i .i64 1]),(1963000010,[.i .i64 1,.i .i64 0]),(1963000011,[.i .i64 0,.i .i64 2]),(1963000012,[.i .i64 2,.i .i64 0])],.i .i64 0,[],3961000000⟩
theorem BB (hL:ae E) {pw:Int} (hP:aP E pw):aA prog E tZ:=aB (aC hL hP (tY hL hP)) (by decide +kernel)
def ua:List aM:=tZ::tX
theorem ub (hL:ae E) {pw:Int} (hP:aP E pw):∀m∈ua,aA prog E m:=au (BB hL hP) (tY hL hP)
def uc:aM:=⟨221,[.ag [.sl 1963000005 0 4 2 .en,.sl 1963000006 0 2 1 .en,.sl 1963000007 0 1 7 .en]],[(1963000005,[.s ⟨#[120,115]⟩,.i .i64 2,.s ⟨#[105]⟩,.i .i64 0,.s ⟨#[120,48]⟩,.i .i64 0,.s ⟨#[120,49]⟩,.i .i64 0]),(1963000006,[.i .i64 0,.i .i64 1]),(1963000007,[.s ⟨#[97]⟩,.ns,.sl 1963000008 0 4 4 .en,.i .i64 2,.i .i64 3,.i .i64 0,.i .i64 0]),(1963000008,[.i .i64 18,.i .i64 (-1),.sl 1963000009 0 2 1 .en,.i .i64 0,.i .i64 26,.i .i64 2,.sl 1963000010 0 2 1 (.ex 2),.i .i64 0,.i .i64 18,.i .i64 (-1),.sl 1963000011 0 2 1 .en,.i .i64 0,.i .i64 26,.i .i64 3,.sl 1963000012 0 2 1 (.ex 2),.i .i64 0]),(1963000009,[.i .i64 0,.i .i64 1]),(1963000010,[.i .i64 1,.i .i64 0]),(1963000011,[.i .i64 0,.i .i64 2]),(1963000012,[.i .i64 2,.i .i64 0])],.tu [.sl 2962000460 0 4 2 .en,.i .i64 0],[(2962000460,[.i .i64 0,.i .i64 64,.i .i64 (-9223372036854775808),.i .i64 9223372036854775807,.i .i64 0,.i .i64 63,.i .i64 0,.i .i64 63])],2962000000⟩
theorem BC (hL:ae E) {pw:Int} (hP:aP E pw):aA prog E uc:=aB (aC hL hP (ub hL hP)) (by decide +kernel)
def ud:List aM:=uc::ua
theorem ue (hL:ae E) {pw:Int} (hP:aP E pw):∀m∈ud,aA prog E m:=au (BC hL hP) (ub hL hP)
def uf:aM:=⟨278,[.ag [.sl 1963000005 0 4 2 .en,.sl 1963000006 0 2 1 .en,.sl 1963000007 0 1 7 .en],.sl 1963000023 0 4 2 .en],[(1963000005,[.s ⟨#[120,115]⟩,.i .i64 2,.s ⟨#[105]⟩,.i .i64 0,.s ⟨#[120,48]⟩,.i .i64 0,.s ⟨#[120,49]⟩,.i .i64 0]),(1963000006,[.i .i64 0,.i .i64 1]),(1963000007,[.s ⟨#[97]⟩,.ns,.sl 1963000008 0 4 4 .en,.i .i64 2,.i .i64 3,.i .i64 0,.i .i64 0]),(1963000008,[.i .i64 18,.i .i64 (-1),.sl 1963000009 0 2 1 .en,.i .i64 0,.i .i64 26,.i .i64 2,.sl 1963000010 0 2 1 (.ex 2),.i .i64 0,.i .i64 18,.i .i64 (-1),.sl 1963000011 0 2 1 .en,.i .i64 0,.i .i64 26,.i .i64 3,.sl 1963000012 0 2 1 (.ex 2),.i .i64 0]),(1963000009,[.i .i64 0,.i .i64 1]),(1963000010,[.i .i64 1,.i .i64 0]),(1963000011,[.i .i64 0,.i .i64 2]),(1963000012,[.i .i64 2,.i .i64 0]),(1963000023,[.i .i64 0,.i .i64 64,.i .i64 (-9223372036854775808),.i .i64 9223372036854775807,.i .i64 0,.i .i64 63,.i .i64 0,.i .i64 63])],.b true,[],3951000000⟩
theorem BD (hL:ae E) {pw:Int} (hP:aP E pw):aA prog E uf:=aB (aC hL hP (ue hL hP)) (by decide +kernel)
def ug:List aM:=uf::ud
theorem uh (hL:ae E) {pw:Int} (hP:aP E pw):∀m∈ug,aA prog E m:=au (BD hL hP) (ue hL hP)
def ui:aM:=⟨280,[.ag [.sl 1963000005 0 4 2 .en,.sl 1963000006 0 2 1 .en,.sl 1963000007 0 1 7 .en],.sl 1963000023 0 4 2 .en],[(1963000005,[.s ⟨#[120,115]⟩,.i .i64 2,.s ⟨#[105]⟩,.i .i64 0,.s ⟨#[120,48]⟩,.i .i64 0,.s ⟨#[120,49]⟩,.i .i64 0]),(1963000006,[.i .i64 0,.i .i64 1]),(1963000007,[.s ⟨#[97]⟩,.ns,.sl 1963000008 0 4 4 .en,.i .i64 2,.i .i64 3,.i .i64 0,.i .i64 0]),(1963000008,[.i .i64 18,.i .i64 (-1),.sl 1963000009 0 2 1 .en,.i .i64 0,.i .i64 26,.i .i64 2,.sl 1963000010 0 2 1 (.ex 2),.i .i64 0,.i .i64 18,.i .i64 (-1),.sl 1963000011 0 2 1 .en,.i .i64 0,.i .i64 26,.i .i64 3,.sl 1963000012 0 2 1 (.ex 2),.i .i64 0]),(1963000009,[.i .i64 0,.i .i64 1]),(1963000010,[.i .i64 1,.i .i64 0]),(1963000011,[.i .i64 0,.i .i64 2]),(1963000012,[.i .i64 2,.i .i64 0]),(1963000023,[.i .i64 0,.i .i64 64,.i .i64 (-9223372036854775808),.i .i64 9223372036854775807,.i .i64 0,.i .i64 63,.i .i64 0,.i .i64 63])],.sl 3950000854 0 7 3 .en,[(3950000854,[.i .i64 4,.i .i64 0,.i .i64 0,.i .i64 1,.i .i64 2,.i .i64 0,.i .i64 4,.i .i64 2,.i .i64 0,.i .i64 4,.i .i64 2,.i .i64 0,.i .i64 2,.i .i64 3,.i .i64 0,.i .i64 4,.i .i64 3,.i .i64 0,.i .i64 4,.i .i64 3,.i .i64 0])],3950000000⟩
theorem BE (hL:ae E) {pw:Int} (hP:aP E pw):aA prog E ui:=aB (aC hL hP (uh hL hP)) (by decide +kernel)
def uj:List aM:=ui::ug
theorem uk (hL:ae E) {pw:Int} (hP:aP E pw):∀m∈uj,aA prog E m:=au (BE hL hP) (uh hL hP)
def ul:aM:=⟨275,[.ag [.sl 1963000005 0 4 2 .en,.sl 1963000006 0 2 1 .en,.sl 1963000007 0 1 7 .en],.sl 1963000023 0 4 2 .en],[(1963000005,[.s ⟨#[120,115]⟩,.i .i64 2,.s ⟨#[105]⟩,.i .i64 0,.s ⟨#[120,48]⟩,.i .i64 0,.s ⟨#[120,49]⟩,.i .i64 0]),(1963000006,[.i .i64 0,.i .i64 1]),(1963000007,[.s ⟨#[97]⟩,.ns,.sl 1963000008 0 4 4 .en,.i .i64 2,.i .i64 3,.i .i64 0,.i .i64 0]),(1963000008,[.i .i64 18,.i .i64 (-1),.sl 1963000009 0 2 1 .en,.i .i64 0,.i .i64 26,.i .i64 2,.sl 1963000010 0 2 1 (.ex 2),.i .i64 0,.i .i64 18,.i .i64 (-1),.sl 1963000011 0 2 1 .en,.i .i64 0,.i .i64 26,.i .i64 3,.sl 1963000012 0 2 1 (.ex 2),.i .i64 0]),(1963000009,[.i .i64 0,.i .i64 1]),(1963000010,[.i .i64 1,.i .i64 0]),(1963000011,[.i .i64 0,.i .i64 2]),(1963000012,[.i .i64 2,.i .i64 0]),(1963000023,[.i .i64 0,.i .i64 64,.i .i64 (-9223372036854775808),.i .i64 9223372036854775807,.i .i64 0,.i .i64 63,.i .i64 0,.i .i64 63])],.sl 2952004229 0 5 2 .en,[(2952004229,[.b true,.i .i64 0,.b false,.i .i64 0,.b true,.i .i64 0,.b true,.i .i64 0,.b true,.i .i64 0])],2952000000⟩
theorem BF (hL:ae E) {pw:Int} (hP:aP E pw):aA prog E ul:=aB (aC hL hP (uk hL hP)) (by decide +kernel)
def um:List aM:=ul::uj
theorem uo (hL:ae E) {pw:Int} (hP:aP E pw):∀m∈um,aA prog E m:=au (BF hL hP) (uk hL hP)
def uq:aM:=⟨282,[.ag [.sl 1963000005 0 4 2 .en,.sl 1963000006 0 2 1 .en,.sl 1963000007 0 1 7 .en],.sl 1963000023 0 4 2 .en],[(1963000005,[.s ⟨#[120,115]⟩,.i .i64 2,.s ⟨#[105]⟩,.i .i64 0,.s ⟨#[120,48]⟩,.i .i64 0,.s ⟨#[120,49]⟩,.i .i64 0]),(1963000006,[.i .i64 0,.i .i64 1]),(1963000007,[.s ⟨#[97]⟩,.ns,.sl 1963000008 0 4 4 .en,.i .i64 2,.i .i64 3,.i .i64 0,.i .i64 0]),(1963000008,[.i .i64 18,.i .i64 (-1),.sl 1963000009 0 2 1 .en,.i .i64 0,.i .i64 26,.i .i64 2,.sl 1963000010 0 2 1 (.ex 2),.i .i64 0,.i .i64 18,.i .i64 (-1),.sl 1963000011 0 2 1 .en,.i .i64 0,.i .i64 26,.i .i64 3,.sl 1963000012 0 2 1 (.ex 2),.i .i64 0]),(1963000009,[.i .i64 0,.i .i64 1]),(1963000010,[.i .i64 1,.i .i64 0]),(1963000011,[.i .i64 0,.i .i64 2]),(1963000012,[.i .i64 2,.i .i64 0]),(1963000023,[.i .i64 0,.i .i64 64,.i .i64 (-9223372036854775808),.i .i64 9223372036854775807,.i .i64 0,.i .i64 63,.i .i64 0,.i .i64 63])],.sl 3948000868 0 7 3 .en,[(3948000868,[.i .i64 4,.i .i64 0,.i .i64 64,.i .i64 1,.i .i64 2,.i .i64 0,.i .i64 0,.i .i64 2,.i .i64 (-1),.i .i64 4,.i .i64 2,.i .i64 63,.i .i64 2,.i .i64 3,.i .i64 0,.i .i64 0,.i .i64 3,.i .i64 (-1),.i .i64 4,.i .i64 3,.i .i64 63])],3948000000⟩
theorem BG (hL:ae E) {pw:Int} (hP:aP E pw):aA prog E uq:=aB (aC hL hP (uo hL hP)) (by decide +kernel)
def ur:List aM:=uq::um
theorem ut (hL:ae E) {pw:Int} (hP:aP E pw):∀m∈ur,aA prog E m:=au (BG hL hP) (uo hL hP)
def uu:aM:=⟨276,[.ag [.sl 1963000005 0 4 2 .en,.sl 1963000006 0 2 1 .en,.sl 1963000007 0 1 7 .en],.sl 1963000023 0 4 2 .en,.i .i64 4],[(1963000005,[.s ⟨#[120,115]⟩,.i .i64 2,.s ⟨#[105]⟩,.i .i64 0,.s ⟨#[120,48]⟩,.i .i64 0,.s ⟨#[120,49]⟩,.i .i64 0]),(1963000006,[.i .i64 0,.i .i64 1]),(1963000007,[.s ⟨#[97]⟩,.ns,.sl 1963000008 0 4 4 .en,.i .i64 2,.i .i64 3,.i .i64 0,.i .i64 0]),(1963000008,[.i .i64 18,.i .i64 (-1),.sl 1963000009 0 2 1 .en,.i .i64 0,.i .i64 26,.i .i64 2,.sl 1963000010 0 2 1 (.ex 2),.i .i64 0,.i .i64 18,.i .i64 (-1),.sl 1963000011 0 2 1 .en,.i .i64 0,.i .i64 26,.i .i64 3,.sl 1963000012 0 2 1 (.ex 2),.i .i64 0]),(1963000009,[.i .i64 0,.i .i64 1]),(1963000010,[.i .i64 1,.i .i64 0]),(1963000011,[.i .i64 0,.i .i64 2]),(1963000012,[.i .i64 2,.i .i64 0]),(1963000023,[.i .i64 0,.i .i64 64,.i .i64 (-9223372036854775808),.i .i64 9223372036854775807,.i .i64 0,.i .i64 63,.i .i64 0,.i .i64 63])],.sl 2949004211 0 5 2 .en,[(2949004211,[.b true,.i .i64 64,.b false,.i .i64 0,.b true,.i .i64 63,.b true,.i .i64 63,.b true,.i .i64 0])],2949000000⟩
theorem BH (hL:ae E) {pw:Int} (hP:aP E pw):aA prog E uu:=aB (aC hL hP (ut hL hP)) (by decide +kernel)
def uv:List aM:=uu::ur
theorem uw (hL:ae E) {pw:Int} (hP:aP E pw):∀m∈uv,aA prog E m:=au (BH hL hP) (ut hL hP)
def ux:aM:=⟨276,[.ag [.sl 1963000005 0 4 2 .en,.sl 1963000006 0 2 1 .en,.sl 1963000007 0 1 7 .en],.sl 1963000023 0 4 2 .en,.i .i64 0],[(1963000005,[.s ⟨#[120,115]⟩,.i .i64 2,.s ⟨#[105]⟩,.i .i64 0,.s ⟨#[120,48]⟩,.i .i64 0,.s ⟨#[120,49]⟩,.i .i64 0]),(1963000006,[.i .i64 0,.i .i64 1]),(1963000007,[.s ⟨#[97]⟩,.ns,.sl 1963000008 0 4 4 .en,.i .i64 2,.i .i64 3,.i .i64 0,.i .i64 0]),(1963000008,[.i .i64 18,.i .i64 (-1),.sl 1963000009 0 2 1 .en,.i .i64 0,.i .i64 26,.i .i64 2,.sl 1963000010 0 2 1 (.ex 2),.i .i64 0,.i .i64 18,.i .i64 (-1),.sl 1963000011 0 2 1 .en,.i .i64 0,.i .i64 26,.i .i64 3,.sl 1963000012 0 2 1 (.ex 2),.i .i64 0]),(1963000009,[.i .i64 0,.i .i64 1]),(1963000010,[.i .i64 1,.i .i64 0]),(1963000011,[.i .i64 0,.i .i64 2]),(1963000012,[.i .i64 2,.i .i64 0]),(1963000023,[.i .i64 0,.i .i64 64,.i .i64 (-9223372036854775808),.i .i64 9223372036854775807,.i .i64 0,.i .i64 63,.i .i64 0,.i .i64 63])],.sl 2947005472 0 5 2 .en,[(2947005472,[.b true,.i .i64 0,.b false,.i .i64 0,.b true,.i .i64 (-1),.b true,.i .i64 (-1),.b true,.i .i64 0])],2947000000⟩
theorem BI (hL:ae E) {pw:Int} (hP:aP E pw):aA prog E ux:=aB (aC hL hP (uw hL hP)) (by decide +kernel)
def uy:List aM:=ux::uv
theorem uz (hL:ae E) {pw:Int} (hP:aP E pw):∀m∈uy,aA prog E m:=au (BI hL hP) (uw hL hP)
def uA:aM:=⟨274,[.ag [.sl 3 0 2 2 (.ex 2),.sl 4 0 2 1 (.ex 2),.sl 12 0 1 7 (.ex 1)]],[(3,[.s ⟨#[120,115]⟩,.i .i64 2,.s ⟨#[105]⟩,.i .i64 0]),(4,[.i .i64 0,.i .i64 1]),(12,[.s ⟨#[97]⟩,.ns,.sl 9 0 2 4 (.ex 2),.i .i64 2,.i .i64 1,.i .i64 0,.i .i64 0]),(9,[.i .i64 18,.i .i64 (-1),.sl 5 0 2 1 (.ex 2),.i .i64 0,.i .i64 18,.i .i64 (-1),.sl 7 0 2 1 (.ex 2),.i .i64 0]),(5,[.i .i64 0,.i .i64 1]),(7,[.i .i64 0,.i .i64 1])],.tu [.sl 1963000491 0 2 1 .en,.i .i64 0],[(1963000491,[.b false,.b true])],1963000000⟩
theorem BJ (hL:ae E) {pw:Int} (hP:aP E pw):aA prog E uA:=aB (aC hL hP (uz hL hP)) (by decide +kernel)
def uB:List aM:=uA::uy
theorem uC (hL:ae E) {pw:Int} (hP:aP E pw):∀m∈uB,aA prog E m:=au (BJ hL hP) (uz hL hP)
def uD:aM:=⟨33,[.ag [.sl 3 0 2 2 (.ex 2),.sl 4 0 2 1 (.ex 2),.sl 12 0 1 7 (.ex 1)],.i .i64 7],[(3,[.s ⟨#[120,115]⟩,.i .i64 2,.s ⟨#[105]⟩,.i .i64 0]),(4,[.i .i64 0,.i .i64 1]),(12,[.s ⟨#[97]⟩,.ns,.sl 9 0 2 4 (.ex 2),.i .i64 2,.i .i64 1,.i .i64 0,.i .i64 0]),(9,[.i .i64 18,.i .i64 (-1),.sl 5 0 2 1 (.ex 2),.i .i64 0,.i .i64 18,.i .i64 (-1),.sl 7 0 2 1 (.ex 2),.i .i64 0]),(5,[.i .i64 0,.i .i64 1]),(7,[.i .i64 0,.i .i64 1])],.tu [.sl 978000015 0 2 1 (.ex 2),.i .i64 0],[(978000015,[.i .i64 0,.i .i64 2])],978000000⟩
theorem BK (hL:ae E) {pw:Int} (hP:aP E pw):aA prog E uD:=aB (aC hL hP (uC hL hP)) (by decide +kernel)
def uE:List aM:=uD::uB
theorem uF (hL:ae E) {pw:Int} (hP:aP E pw):∀m∈uE,aA prog E m:=au (BK hL hP) (uC hL hP)
def uG:aM:=⟨8,[.ag [.sl 3 0 2 2 (.ex 2),.sl 4 0 2 1 (.ex 2),.sl 12 0 1 7 (.ex 1)]],[(3,[.s ⟨#[120,115]⟩,.i .i64 2,.s ⟨#[105]⟩,.i .i64 0]),(4,[.i .i64 0,.i .i64 1]),(12,[.s ⟨#[97]⟩,.ns,.sl 9 0 2 4 (.ex 2),.i .i64 2,.i .i64 1,.i .i64 0,.i .i64 0]),(9,[.i .i64 18,.i .i64 (-1),.sl 5 0 2 1 (.ex 2),.i .i64 0,.i .i64 18,.i .i64 (-1),.sl 7 0 2 1 (.ex 2),.i .i64 0]),(5,[.i .i64 0,.i .i64 1]),(7,[.i .i64 0,.i .i64 1])],.sl 1945000071 0 2 2 .en,[(1945000071,[.i .i64 0,.i .i64 0,.i .i64 0,.i .i64 1])],1945000000⟩
theorem BL (hL:ae E) {pw:Int} (hP:aP E pw):aA prog E uG:=aB (aC hL hP (uF hL hP)) (by decide +kernel)
def uH:List aM:=uG::uE
theorem uI (hL:ae E) {pw:Int} (hP:aP E pw):∀m∈uH,aA prog E m:=au (BL hL hP) (uF hL hP)
def uJ:aM:=⟨7,[.ag [.sl 3 0 2 2 (.ex 2),.sl 4 0 2 1 (.ex 2),.sl 12 0 1 7 (.ex 1)],.sl 57 0 2 1 .en],[(3,[.s ⟨#[120,115]⟩,.i .i64 2,.s ⟨#[105]⟩,.i .i64 0]),(4,[.i .i64 0,.i .i64 1]),(12,[.s ⟨#[97]⟩,.ns,.sl 9 0 2 4 (.ex 2),.i .i64 2,.i .i64 1,.i .i64 0,.i .i64 0]),(9,[.i .i64 18,.i .i64 (-1),.sl 5 0 2 1 (.ex 2),.i .i64 0,.i .i64 18,.i .i64 (-1),.sl 7 0 2 1 (.ex 2),.i .i64 0]),(5,[.i .i64 0,.i .i64 1]),(7,[.i .i64 0,.i .i64 1]),(57,[.b false,.b true])],.tu [.ag [.sl 946000033 0 2 2 .en,.sl 946000040 0 2 1 .en,.sl 946000124 0 1 7 .en],.i .i64 0],[(946000033,[.s ⟨#[120,115]⟩,.i .i64 2,.s ⟨#[105]⟩,.i .i64 0]),(946000040,[.i .i64 0,.i .i64 1]),(946000124,[.s ⟨#[97]⟩,.ns,.sl 946000193 0 1 4 .en,.i .i64 2,.i .i64 1,.i .i64 0,.i .i64 0]),(946000193,[.i .i64 18,.i .i64 (-1),.sl 946000080 0 2 1 .en,.i .i64 0]),(946000080,[.i .i64 0,.i .i64 1])],946000000⟩
theorem BM (hL:ae E) {pw:Int} (hP:aP E pw):aA prog E uJ:=aB (aC hL hP (uI hL hP)) (by decide +kernel)
def BN:List aM:=uJ::uH
theorem BO (hL:ae E) {pw:Int} (hP:aP E pw):∀m∈BN,aA prog E m:=au (BM hL hP) (uI hL hP)
theorem nS (hL:ae E) {pw:Int} (hP:aP E pw):aV prog E 5 [] (.bool true):=
 oW B9 (lU (nM (oX hL)) (lU (mT hP) (nQ (BO hL hP)))) (fuel:=600) (d:=60) (by decide +kernel)
end
section
open Go.Proofs.Tryz
open Go.Proofs
def x1 (x:aD):Int:=(x.args[1]?).getD 0
def n0 (f:ai):Int:=f.vars.length
end
section
open Go.Proofs.Tryz
end
section
open Go.Proofs.Tryz
open Go.Proofs Go.Lib Go.Shelf Go.RowKit Go.WideShapes
set_option maxRecDepth 20000
variable {W:World}
theorem De:d9 prog W 27 (fun l:List Bool=>[.fro 1 (l.map zW)]) (fun l=>l.length≤9223372036854775807):=fun en held fuel cs x h=>by
 obtain ⟨l,hl,r⟩:=d9.slice (k:=1) jk (d9.bool (W:=W) underlying4) (by kernel_rfl) (by decide) en held fuel cs x h
 exact ⟨l,hl.2,r⟩
end
section
open Go.Proofs.Tryz
open Go.Proofs Go.Lib Go.Shelf Go.RowKit Go.WideShapes
set_option maxRecDepth 20000
variable {W:World}
theorem BP (h:W.ShapedOpen prog):∃m,aP W m:=
 xD (P:=prog) (g:=2) (t:=362) (u:=126) (zero:=Array.replicate 20 (.int .u64 0)) (ts:=List.replicate 20 126) (i:=2) h (of_decide_eq_true (by kernel_rfl)) (by kernel_rfl) (by kernel_rfl) (by kernel_rfl) (by decide) rfl Z9
theorem BQ {H:Type} {enc:TypeId × Value→H} {os:Os} {f:FuncId} {fn:Func} {s:ChangeSpec} {X:World→Array Value→Prop}
  (hX:∀(w w':World) (args:Array Value),w.heap=w'.heap→X w args→X w' args)
  (own:ownKnob prog.godebug=none) (started:os.Started) (noInit:prog.inits.idxOf? f=none) (hfn:prog.funcs[f]?=some fn)
  (witness:∃(w:World) (tape:Tape) (i:Input),w.os=os∧(w.forCall tape i).Shaped Tryz.checked.prog∧i.vars=[]∧Input.okWide Tryz.checked.prog (w.forCall tape i) .any w.heap.size f i ∧
   ((s.pre enc Tryz.checked.prog fn [] false (w.forCall tape i).memory i.args∧X (w.forCall tape i).memory i.args)∧sizedMet enc Tryz.checked.prog fn (OpenSpec.ofChange s) false (w.forCall tape i).memory i.args)∧({}:Assume).holds Tryz.checked.prog (lone (Frame.enter Tryz.checked.prog f i.args .normal) [] (w.forCall tape i)))
  (contract:∀(W:World) (base:Nat) (args:Array Value) (ds gs:List (DataW H)) (before:List MemPlace),
   (∀(j:Nat) t v,fn.params[j]?=some t→args[j]?=some v→Value.okWide prog W .any base t v) →
   DataW.Whole enc prog fn.params.toList s.vars false W args.toList ds gs before→X W args→W.ShapedOpen prog →
   Calls prog f args W fun e W'=>∃v,e=.returned v∧s.post enc prog fn false true false false W args v W') :
  ReturnsInHanded {} Tryz.checked os f .any (fun w args=>(s.pre enc prog fn [] false w args∧X w args)∧sizedMet enc prog fn (OpenSpec.ofChange s) false w args) (s.post enc prog fn false true false false):=by
 refine returnsInHanded_of_calls own started noInit witness fun w tape i _ hsh _ hok hpre _=>?_
 obtain ⟨_,_,_,fn',hfn',_,_,_,_,hval⟩:=hok
 have e:fn'=fn:=Option.some.inj (hfn'.symm.trans hfn)
 rw[e] at hval
 obtain ⟨⟨⟨ds,gs,before,hw,_⟩,hx⟩,_⟩:=hpre
 exact (contract _ _ i.args ds gs before hval (DataW.Whole.of_heap (w':=w.forCall tape i) (by rfl) hw) (hX _ _ _ (by rfl) hx) hsh).mono fun e W' ⟨v,he,hp⟩=>by rw[he];exact ChangeSpec.post_blind hp
end
section
open Go.Proofs.Tryz
open Go.Proofs
theorem EF:prog.mayEnter=true:=by kernel_rfl
theorem Eg:(Rows.dropRunsRow.lifted == prog.liftsFinal)=true:=by kernel_rfl
theorem Eh:(prog.make == some Rows.dropRunsRow.make)=true:=by kernel_rfl
theorem Ei:laidOutB prog=true:=by kernel_rfl
theorem EG:mapsRowed prog=true:=by kernel_rfl
theorem Ej:(prog.stops == [])=true:=by kernel_rfl
theorem Ek:(prog.stopKnobs == [])=true:=by kernel_rfl
theorem El:(Rows.dropRunsRow.plainKeys == prog.plainKeys)=true:=by kernel_rfl
theorem Df:prog.stopsHeard=true:=by kernel_rfl
theorem EX:(Rows.dropRunsRow.inPlace == prog.inPlace 4)=true:=by kernel_rfl
theorem EY:(Rows.dropRunsRow.unfollowed == prog.unfollowed 4)=true:=by kernel_rfl
theorem EH:(Rows.dropRunsRow.recurses == prog.recurses 4)=true:=by kernel_rfl
theorem EI:(Rows.dropRunsRow.named == prog.varsNamed 4)=true:=by kernel_rfl
theorem closed:joinedFacts prog 4 Tryz.f4 Rows.dropRunsSpec Rows.dropRunsRow=true:=by
 unfold joinedFacts
 rw[Ei,EG,Ej,Ek,EX,EY,EH,EI,El,Df,EF,Eg,Eh]
 kernel_rfl
end
section
open Go.Proofs.Tryz
open Go.Proofs Go.Lib Go.Shelf Go.RowKit Go.WideShapes
set_option maxRecDepth 20000
variable {W:World}
theorem Ca {n:Int} (h:(Lit.int .i64 n).wf=true):bT n:=by simpa [bT,Lit.wf,IntKind.min,IntKind.max,IntKind.signed,IntKind.bits] using h
theorem Dg:d9 prog W 84 w3 (fun a=>bT a.int):=fun en held fuel cs x h=>by
 obtain ⟨xs,n,_,_,hl,hxl,hf⟩:=DataW.trod_struct Yd h
 have hl:cs.length=3:=hl.trans (by kernel_rfl)
 have hxl:xs.length=3:=hxl
 obtain ⟨a,ha,ra⟩:=qc (o:=0) (k:=1) (hf 0 _ rfl) (d9.int Zf) (by omega) rfl (by kernel_rfl)
 obtain ⟨b,_,rb⟩:=qc (o:=1) (k:=1) (hf 1 _ rfl) (d9.bool underlying4) (by omega) rfl (by kernel_rfl)
 obtain ⟨c,_,rc⟩:=qc (o:=2) (k:=1) (hf 2 _ rfl) vA (by omega) rfl (by kernel_rfl)
 exact ⟨⟨a,b,c⟩,Ca ha,q6 (o:=0) ra (q6 rb (q6 rc (RepL.fin hl)))⟩
theorem Dh:d9 prog W 49 w4 (fun r=>∀x∈r,bT x):=fun en held fuel cs x h=>by
 obtain ⟨l,hl,r⟩:=d9.slice (k:=1) jg (d9.int Zf) (by kernel_rfl) (by decide) en held fuel cs x h
 exact ⟨l,fun x hx=>Ca (hl.1 x hx),r⟩
theorem Em:d9 prog W 42 mI (fun i=>Co i∧i.args.length≤9223372036854775807∧i.arrays.length≤9223372036854775807):=fun en held fuel cs x h=>by
 obtain ⟨xs,n,_,_,hl,hxl,hf⟩:=DataW.trod_struct Zm h
 have hl:cs.length=2:=hl.trans (by kernel_rfl)
 have hxl:xs.length=2:=hxl
 obtain ⟨a,ha,ra⟩:=qc (o:=0) (k:=1) (hf 0 _ rfl) (d9.slice (k:=3) Y7 Dg (by kernel_rfl) (by decide)) (by omega) rfl (by kernel_rfl)
 obtain ⟨b,hb,rb⟩:=qc (o:=1) (k:=1) (hf 1 _ rfl) (d9.slice (k:=1) Z2 Dh (by kernel_rfl) (by decide)) (by omega) rfl (by kernel_rfl)
 exact ⟨⟨a,b⟩,⟨⟨ha.1,hb.1⟩,ha.2,hb.2⟩,q6 (o:=0) ra (q6 rb (RepL.fin hl))⟩
end
section
open Go.Proofs.Tryz
open Go.Proofs Go.Lib Go.Shelf Go.RowKit Go.WideShapes
set_option maxRecDepth 20000
variable {W:World}
theorem Di {H:Type} {enc:TypeId × Value→H} {held:Bool} {T:TypeId} {base:Nat} {v:Value} {d:DataW H} {p:List MemPlace} (ht:prog.underlying T=some (.int .u16))
  (hv:Value.okWide prog W .any base T v) (h:DataW.Trod enc prog W 0 (fun _=>true) held T v d p):∃n:Int,(0≤n∧n≤65535)∧v=.int .u16 n:=by
 obtain ⟨n,rfl⟩:=okWide_int ht hv
 obtain ⟨fuel,h⟩:=h
 obtain ⟨m,h1,h2⟩:=d9.int ht enc held fuel _ _ h
 obtain ⟨v,_,e,h2,h3⟩:=h2
 cases e
 cases h2
 exact ⟨n,by simpa [Lit.wf,IntKind.min,IntKind.max,IntKind.signed,IntKind.bits] using h1,rfl⟩
end
end Go.Proofs.YtbconpmnckokoaaGreatDoor
