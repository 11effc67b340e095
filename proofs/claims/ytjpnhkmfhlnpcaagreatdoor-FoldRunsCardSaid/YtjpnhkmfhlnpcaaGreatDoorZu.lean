/- What is known of a heap told by names, told as plain data; calls that are handed such things. No conditions. -/
import Derived.Test.YtjpnhkmfhlnpcaaGreatDoorZt
import Derived.Shelf.Strconv.Itoa1
import Derived.Shelf.Vars
set_option linter.unusedVariables false
set_option linter.unusedSimpArgs false
set_option linter.unusedSectionVars false
namespace Go.Proofs.YtjpnhkmfhlnpcaaGreatDoor
section
open Go.Proofs
def mf (l:List Oper) (X:Nat→Bool):Prop:=∀i o,X i=true→l[i]?=some o→∀e∈o.after,Region.binds .any e=true→X e.on=true
def pQ (l:List Oper):Prop:=∀i o,l[i]?=some o→∀e∈o.after,Region.binds .any e=true→e.on<i
def Fh (l:List Oper) (X:Nat→Bool) (am:List Nat):Prop:=
 ∀(i m:Nat) (o:Oper),am[i]?=some m→l[i]?=some o→(∀j,m.testBit j=true→j<i)∧((∀e∈o.after,Region.binds .any e=true→X e.on=true)→∀j,m.testBit j=true→X j=true)
theorem pR {am:List Nat} {o:Oper} {j:Nat} (h:(Fg am o).testBit j=true):∃e∈o.after,Region.binds .any e=true∧(j=e.on∨∃m,am[e.on]?=some m∧m.testBit j=true):=by
 unfold Fg at h
 have key:∀(es:List Edge) (m0:Nat),(es.foldl (fun m e=>bif Region.binds .any e then m ||| (2 ^ e.on ||| (am[e.on]?).getD 0) else m) m0).testBit j=true→m0.testBit j=true∨∃e∈es,Region.binds .any e=true∧(j=e.on∨∃m,am[e.on]?=some m∧m.testBit j=true):=by
  intro es
  induction es with
  |nil=>intro m0 h;exact .inl h
  |cons e es ih=>
   intro m0 h
   rw[List.foldl_cons] at h
   rcases ih _ h with h1|⟨e',h1,h2⟩
   ·cases hb:Region.binds .any e with
    |false=>rw[hb] at h1;exact .inl h1
    |true=>
     rw[hb] at h1
     simp only[cond_true,Nat.testBit_or,Bool.or_eq_true] at h1
     rcases h1 with h1|h1|h1
     ·exact .inl h1
     ·refine .inr ⟨e,.head _,hb,.inl ?_⟩
      rw[Nat.testBit_two_pow] at h1
      exact (w9 h1).symm
     ·refine .inr ⟨e,.head _,hb,.inr ?_⟩
      cases hm:am[e.on]? with
      |none=>rw[hm] at h1;simp at h1
      |some m=>rw[hm] at h1;exact ⟨m,rfl,h1⟩
   ·exact .inr ⟨e',.tail _ h1,h2⟩
 rcases key o.after.toList 0 h with h1|⟨e,h1,h2⟩
 ·simp at h1
 ·exact ⟨e,by simpa using h1,h2⟩
theorem yL {l:List Oper} {X:Nat→Bool} (hX:mf l X) (hE:pQ l):∀(r:List Oper) (am:List Nat),l.drop am.length=r→Fh l X am→Fh l X (iV r am)
 |[],am,_,h=>h
 |o::r,am,hd,h=>by
  unfold iV
  have ho:l[am.length]?=some o:=by
   have:=congrArg (·[0]?) hd
   simpa using this
  refine yL hX hE r _ (by rw[qw,List.length_singleton];have:=congrArg (List.drop 1) hd;simpa [List.drop_drop] using this) fun i m o' hm ho'=>?_
  by_cases hi:i<am.length
  ·rw[List.getElem?_append_left hi] at hm
   exact h i m o' hm ho'
  ·have hlt:=(List.getElem?_eq_some_iff.1 hm).1
   rw[qw,List.length_singleton] at hlt
   have hie:i=am.length:=by omega
   subst hie
   rw[ho] at ho';cases ho'
   rw[List.getElem?_append_right (Nat.le_refl _),Nat.sub_self] at hm
   simp only[List.getElem?_cons_zero,Option.some.injEq] at hm
   subst hm
   constructor
   ·intro j hj
    obtain ⟨e,h1,h2,h3⟩:=pR hj
    have hlt:=hE _ o ho e h1 h2
    rcases h3 with rfl|⟨m,hm,hmj⟩
    ·exact hlt
    ·have hle:e.on<l.length:=Nat.lt_trans hlt (List.getElem?_eq_some_iff.1 ho).1
     have:=(h e.on m _ hm (qq hle)).1 j hmj
     omega
   ·intro hall j hj
    obtain ⟨e,h1,h2,h3⟩:=pR hj
    have hlt:=hE _ o ho e h1 h2
    have hXe:=hall e h1 h2
    rcases h3 with rfl|⟨m,hm,hmj⟩
    ·exact hXe
    ·have hle:e.on<l.length:=Nat.lt_trans hlt (List.getElem?_eq_some_iff.1 ho).1
     exact (h e.on m _ hm (qq hle)).2 (fun e' h1' h2'=>hX e.on _ hXe (qq hle) e' h1' h2') j hmj
theorem Fi {l:List Oper} {X:Nat→Bool} (hX:mf l X) (hE:pQ l):Fh l X (iV l []):=yL hX hE l [] rfl fun i m o h=>by simp at h
section
variable {nx0:Nat}
theorem ez {p q:Nat→Bool}:∀(R:List Rc) (a:Nat),(∀j,q j=true→p j=true)→(bT nx0 p R a).Perm (bT nx0 q R a++bT nx0 (fun j=>p j&&!q j) R a)
 |[],_,_=>.refl _
 |.av x o::R,a,h=>by
  have ih:=ez R (a+1) h
  unfold bT
  cases hp:p a with
  |false=>
   have hq:q a=false:=by cases hq:q a with
    |false=>rfl
    |true=>rw[h a hq] at hp;cases hp
   simp only[hq,cond_false,Bool.false_and];exact ih
  |true=>
   cases hq:q a with
   |true=>simp only[cond_true,Bool.not_true,Bool.and_false,cond_false,List.cons_append];exact ih.cons _
   |false=>simp only[cond_true,cond_false,Bool.not_false,Bool.and_true];exact (ih.cons _).trans List.perm_middle.symm
 |.pv _::R,a,h=>ez R (a+1) h
 |.lv _::R,a,h=>ez R (a+1) h
 |.cv _::R,a,h=>ez R (a+1) h
theorem eC {p q:Nat→Bool}:∀(R:List Rc) (a:Nat),(∀j x o,R[j]?=some (.av x o)→p (a+j)=q (a+j))→bT nx0 p R a=bT nx0 q R a
 |[],_,_=>rfl
 |r::R,a,h=>by
  have ih:=eC R (a+1) fun j x o hj=>(by omega:a+(j+1)=a+1+j)▸h (j+1) x o (by simpa using hj)
  cases r with
  |av x o=>
   unfold bT
   have:=h 0 x o rfl
   rw[Nat.add_zero] at this
   rw[this,ih]
  |pv x=>exact ih
  |lv x=>exact ih
  |cv x=>exact ih
theorem mS (p:Nat→Bool):∀(R S:List Rc) (a:Nat),bT nx0 p (R++S) a=bT nx0 p R a++bT nx0 p S (a+R.length)
 |[],S,a=>rfl
 |r::R,S,a=>by
  have ih:=mS p R S (a+1)
  rw[show a+1+R.length=a+(r::R).length by rw[List.length_cons];omega] at ih
  rw[List.cons_append]
  cases r with
  |av x o=>
   show (bif p a then (nx0+a,o)::bT nx0 p (R++S) (a+1) else bT nx0 p (R++S) (a+1))=(bif p a then (nx0+a,o)::bT nx0 p R (a+1) else bT nx0 p R (a+1))++bT nx0 p S (a+(Rc.av x o::R).length)
   rw[ih]
   cases p a<;>rfl
  |pv x=>exact ih
  |lv x=>exact ih
  |cv x=>exact ih
theorem gA {p:Nat→Bool}:∀(R:List Rc) (a:Nat),(∀j,a≤j→p j=false)→bT nx0 p R a=[]
 |[],_,_=>rfl
 |r::R,a,h=>by
  have ih:=gA R (a+1) fun j hj=>h j (by omega)
  cases r with
  |av x o=>unfold bT;rw[h a (Nat.le_refl _)];exact ih
  |pv x=>exact ih
  |lv x=>exact ih
  |cv x=>exact ih
end
section
variable {φ:cN} {I:aP} {H H':Hp} {nx k:Nat} {F A:List (Nat × Obj)} {E w:World} {o:VO}
theorem dg.take (h:dg I φ H nx (A++F) E w) (hb:gn I φ k o A) (hk:H.get k=none):dg I φ (H.set k (some o)) nx F E w:=by
 obtain ⟨M,L,hn,hm,hr,hS⟩:=h.ex
 refine qi (A:=A) (L:=L) ⟨M,hn,fun j o'=>?_,hr⟩ hb (hS.perm ?_) h.top
 ·rw[hm j o']
  exact ⟨fun hj=>⟨fun e=>(by subst e;rw[hk] at hj;cases hj),hj⟩,fun hj=>hj.2⟩
 ·rw[←qs,←qs]
  exact List.perm_append_comm.append_right F
theorem dg.takeAll:∀{M:List (Nat × VO)} {L:List (Nat × Obj)} {H H':Hp},gp I φ M L→sX M H=some H'→dg I φ H nx (L++F) E w→dg I φ H' nx F E w
 |[],L,H,H',h1,h2,h3=>by
  have h1:L=[]:=h1
  subst h1;cases h2;exact h3
 |(k,o)::M,L,H,H',⟨A,B,e,h1,h1'⟩,h2,h3=>by
  subst e
  unfold sX at h2
  split at h2
  ·rename_i hk
   rw[qs] at h3
   exact dg.takeAll h1' h2 (h3.take h1 hk)
  ·cases h2
theorem gp.app:∀{M N:List (Nat × VO)} {L:List (Nat × Obj)},gp I φ (M++N) L→∃A B,L=A++B∧gp I φ M A∧gp I φ N B
 |[],N,L,h=>⟨[],L,rfl,rfl,h⟩
 |x::M,N,L,⟨A,B,e,h1,h2⟩=>by
  obtain ⟨C,D,e2,h3,h4⟩:=gp.app h2
  exact ⟨A++C,D,by rw[e,e2,qs],⟨A,C,rfl,h1,h3⟩,h4⟩
theorem dg.permF {F':List (Nat × Obj)} (h:dg I φ H nx F E w) (hp:F'.Perm F):dg I φ H nx F' E w:=by
 obtain ⟨M,L,hn,hm,hr,hS⟩:=h.ex
 exact ⟨h.top,M,L,hn,hm,hr,hS.perm (hp.append_left L)⟩
end
theorem Dk {lk:List Nat} {G G':Tr EV} (h:∀t∈lk,gt G t=gt G' t):Dj lk G=Dj lk G':=by
 funext t
 unfold Dj
 cases hm:nF t lk with
 |false=>rfl
 |true=>exact h t (gy.1 hm)
noncomputable def Fj (T:TT) (call:cb) (g:Nat→EV) (H:Hp) (k nx:Nat) (op:Op):Option (EV × Hp × Nat):=
 match K2 T g H k op with
 |some (x,H')=>some (x,H',nx)
 |none=>Ff T call g H nx op
def Iz (T:TT) (call:cb) (l:List Oper) (am:List Nat) (nx0:Nat) (R:List Rc) (GF:Tr EV) (S:List wF) (i:Nat) (o:Oper) (r:Rc):Prop:=
 ∃t,uX l (Dj (vd l o) GF) o=some t∧(t=false→r=.pv (.tu []))∧(t=true→match r with
  |.pv x=>KJ T (Dj (vd l o) GF) o.op=some x
  |.av x vo=>J1 T (Dj (vd l o) GF) (nx0+i) o.op=some (x,vo)
  |.lv _=>True
  |.cv x=>∃H nx fl H1 H' nx',S[ee R i]?=some (H,nx,fl)∧S[ee R i+1]?=some (H',nx',fl ||| (am[i]?).getD 0)∧sX (bT nx0 (qA fl ((am[i]?).getD 0)) (R.take i) 0) H=some H1 ∧
    Fj T call (Dj (vd l o) GF) H1 (nx0+i) nx o.op=some (x,H',nx')∧(ee R i=0∨∃c y,R[c]?=some (.cv y)∧ee R c+1=ee R i∧((am[i]?).getD 0).testBit c=true))
def pS (T:TT) (call:cb) (l:List Oper) (am:List Nat) (nx0:Nat) (i:Nat) (rs:List Rc) (G:Tr EV) (S:List wF) (R:List Rc) (GF:Tr EV) (SF:List wF):Prop:=
 (∃rr,R=rs++rr∧rr.length+i=l.length)∧(∃ss,SF=S++ss)∧SF.length=(R.filter fj).length+1∧(∀t,(∀j o,i≤j→l[j]?=some o→o.dst≠some t)→gt GF t=gt G t) ∧
  ∀j o,i≤j→l[j]?=some o→∃r,R[j]?=some r∧Iz T call l am nx0 R GF SF j o r∧∀d,o.dst=some d→gt GF d=r.x
theorem s6 (G:Tr EV) (d:Option Nat) (x:EV) (t:Nat):gt (setO G d x) t=if d=some t then x else gt G t:=by
 cases d with
 |none=>rw[if_neg (by simp)];rfl
 |some d=>
  unfold gt setO
  rw[Tr.get_set]
  by_cases e:t=d
  ·rw[if_pos e,if_pos (by rw[e])];rfl
  ·rw[if_neg e,if_neg (fun h=>e (Option.some.inj h).symm)]
theorem iE {T:TT} {call:cb} {l:List Oper} {am:List Nat} {nx0:Nat} (hD:∀(i j:Nat) (o o':Oper) d,l[i]?=some o→l[j]?=some o'→o.dst=some d→o'.dst=some d→i=j) (hW:∀(i:Nat) (o:Oper) t,l[i]?=some o→t∈vd l o→∀(j:Nat) (o':Oper),l[j]?=some o'→o'.dst=some t→j<i)
  {i:Nat} {o:Oper} {rs:List Rc} {G:Tr EV} {S S':List wF} {R:List Rc} {GF:Tr EV} {SF:List wF} {r:Rc} (ho:l[i]?=some o) (hrs:rs.length=i) (hS:∃ss,S'=S++ss) (h:pS T call l am nx0 (i+1) (rs++[r]) (setO G o.dst r.x) S' R GF SF)
  (hf:(∃rr,R=rs++(r::rr))→(∃ss,SF=S'++ss)→Dj (vd l o) GF=Dj (vd l o) G→Iz T call l am nx0 R GF SF i o r):pS T call l am nx0 i rs G S R GF SF:=by
 obtain ⟨⟨rr,h1,h1'⟩,⟨ss,h2⟩,h3,h4,h5⟩:=h
 obtain ⟨s0,hs0⟩:=hS
 have hR:R=rs++(r::rr):=by rw[h1];simp
 have hget:R[i]?=some r:=by rw[hR,List.getElem?_append_right (by omega),hrs,Nat.sub_self];rfl
 refine ⟨⟨r::rr,hR,by rw[List.length_cons];omega⟩,⟨s0++ss,by rw[h2,hs0,qs]⟩,h3,fun t ht=>?_,fun j o' hj ho'=>?_⟩
 ·rw[h4 t fun j o' hj ho'=>ht j o' (by omega) ho',s6,if_neg (ht i o (Nat.le_refl _) ho)]
 ·by_cases e:j=i
  ·subst e
   rw[ho] at ho';cases ho'
   refine ⟨r,hget,hf ⟨rr,hR⟩ ⟨ss,h2⟩ (Dk fun t ht=>?_),fun d hd=>?_⟩
   ·rw[h4 t fun j' o' hj' ho2 e2=>by have:=hW j o t ho ht j' o' ho2 e2;omega,s6,if_neg fun e2=>by have:=hW j o t ho ht j o ho e2;omega]
   ·rw[h4 d fun j' o' hj' ho2 e2=>by have:=hD j j' o o' d ho ho2 hd e2;omega,s6,if_pos hd]
  ·exact h5 j o' (by omega) ho'
theorem uZ {rs rr:List Rc} {c:Nat} (h:c≤rs.length):ee (rs++rr) c=ee rs c:=by
 unfold ee;rw[List.take_append_of_le_length h]
theorem u0 (rs rr:List Rc):ee (rs++rr) rs.length=(rs.filter fj).length:=by
 unfold ee;rw[List.take_left]
theorem pT {T:TT} {call:cb} {l:List Oper} {am:List Nat} {nx0:Nat} (hD:∀(i j:Nat) (o o':Oper) d,l[i]?=some o→l[j]?=some o'→o.dst=some d→o'.dst=some d→i=j) (hW:∀(i:Nat) (o:Oper) t,l[i]?=some o→t∈vd l o→∀(j:Nat) (o':Oper),l[j]?=some o'→o'.dst=some t→j<i) :
  ∀(rest:List Oper) (i:Nat) (rs:List Rc) (G:Tr EV) (S:List wF) (H:Hp) (nx fl:Nat) (last:Option Nat) (R:List Rc) (GF:Tr EV) (SF:List wF),l.drop i=rest→i≤l.length→rs.length=i→S.length=(rs.filter fj).length+1→S[(rs.filter fj).length]?=some (H,nx,fl) →
   (∀c,last=some c→(∃y,rs[c]?=some (.cv y))∧ee rs c+1=(rs.filter fj).length)→(last=none→(rs.filter fj).length=0)→pass T call l am nx0 rest i rs G S H nx fl last=some (R,GF,SF)→pS T call l am nx0 i rs G S R GF SF
 |[],i,rs,G,S,H,nx,fl,last,R,GF,SF,hd,hi,hrs,hS,hSl,hl1,hl2,h=>by
  cases h
  have:i=l.length:=by
   have:=congrArg List.length hd
   simp at this;omega
  refine ⟨⟨[],by simp,by simpa using this⟩,⟨[],by simp⟩,hS,fun _ _=>Z,fun j o hj ho=>?_⟩
  have:=(List.getElem?_eq_some_iff.1 ho).1
  omega
 |o::rest,i,rs,G,S,H,nx,fl,last,R,GF,SF,hd,hi,hrs,hS,hSl,hl1,hl2,h=>by
  have ho:l[i]?=some o:=by
   have:=congrArg (·[0]?) hd
   simpa using this
  have hlt:i<l.length:=(List.getElem?_eq_some_iff.1 ho).1
  have hd2:l.drop (i+1)=rest:=by have:=congrArg (List.drop 1) hd;simpa [List.drop_drop] using this
  have hcv:∀r:Rc,fj r=false→((rs++[r]).filter fj).length=(rs.filter fj).length:=fun r hr=>by
   rw[List.filter_append];simp[hr]
  have hlast:∀r:Rc,fj r=false→∀c,last=some c→(∃y,(rs++[r])[c]?=some (.cv y))∧ee (rs++[r]) c+1=((rs++[r]).filter fj).length:=fun r hr c hc=>by
   obtain ⟨⟨y,hy⟩,h2⟩:=hl1 c hc
   have hcl:=(List.getElem?_eq_some_iff.1 hy).1
   exact ⟨⟨y,by rw[List.getElem?_append_left hcl];exact hy⟩,by rw[uZ (Nat.le_of_lt hcl),hcv r hr];exact h2⟩
  have go:∀(r:Rc),fj r=false→pass T call l am nx0 rest (i+1) (rs++[r]) (setO G o.dst r.x) S H nx fl last=some (R,GF,SF)→pS T call l am nx0 (i+1) (rs++[r]) (setO G o.dst r.x) S R GF SF:=fun r hr hp=>
   pT hD hW rest (i+1) (rs++[r]) _ S H nx fl last R GF SF hd2 hlt (by simp[hrs]) (by rw[hcv r hr];exact hS) (by rw[hcv r hr];exact hSl) (hlast r hr) (fun e=>by rw[hcv r hr];exact hl2 e) hp
  unfold pass at h
  dsimp only at h
  split at h
  ·cases h
  ·rename_i t ht
   cases t with
   |false=>
    simp only[cond_false] at h
    exact iE hD hW ho hrs ⟨[],by simp⟩ (go (.pv (.tu [])) rfl h) fun _ _ hg=>⟨false,by rw[hg];exact ht,fun _=>rfl,fun e=>by cases e⟩
   |true=>
    simp only[cond_true] at h
    split at h
    ·rename_i x hx
     exact iE hD hW ho hrs ⟨[],by simp⟩ (go (.pv x) rfl h) fun _ _ hg=>⟨true,by rw[hg];exact ht,fun e=>(by cases e),fun _=>by rw[hg];exact hx⟩
    ·split at h
     ·rename_i x vo hx
      exact iE hD hW ho hrs ⟨[],by simp⟩ (go (.av x vo) rfl h) fun _ _ hg=>⟨true,by rw[hg];exact ht,fun e=>(by cases e),fun _=>by rw[hg];exact hx⟩
     ·split at h
      ·cases h
      ·rename_i H1 hH1
       split at h
       ·rename_i x hx
        exact iE hD hW ho hrs ⟨[],by simp⟩ (go (.lv x) rfl h) fun _ _ hg=>⟨true,by rw[hg];exact ht,fun e=>(by cases e),fun _=>trivial⟩
       ·split at h
        ·cases h
        ·rename_i x H' nx' hx
         cases hb:last.elim true (fun c=>((am[i]?).getD 0).testBit c) with
         |false=>rw[hb] at h;cases h
         |true=>
          rw[hb] at h
          simp only[cond_true] at h
          have hcv1:((rs++[Rc.cv x]).filter fj).length=(rs.filter fj).length+1:=by rw[List.filter_append,qw];rfl
          have hrec:=pT hD hW rest (i+1) (rs++[.cv x]) (setO G o.dst x) (S++[(H',nx',fl ||| (am[i]?).getD 0)]) H' nx' (fl ||| (am[i]?).getD 0) (some i) R GF SF hd2 hlt (by simp[hrs]) (by rw[hcv1,qw,hS];rfl) (by rw[hcv1,List.getElem?_append_right (by omega),hS,Nat.sub_self];rfl)
           (fun c hc=>by
            cases hc
            exact ⟨⟨x,by rw[List.getElem?_append_right (by omega),hrs,Nat.sub_self];rfl⟩,by rw[hcv1,←hrs,u0]⟩) (fun e=>by cases e) h
          refine iE hD hW ho hrs ⟨_,rfl⟩ hrec fun ⟨rr,hR⟩ ⟨ss,hSF⟩ hg=>⟨true,by rw[hg];exact ht,fun e=>(by cases e),fun _=>?_⟩
          have hcp:ee R i=(rs.filter fj).length:=by rw[hR,←hrs,u0]
          refine ⟨H,nx,fl,H1,H',nx',?_,?_,?_,by rw[hg];exact hx,?_⟩
          ·rw[hcp,hSF,qs,List.getElem?_append_left (by omega)];exact hSl
          ·rw[hcp,hSF,List.getElem?_append_left (by rw[qw,hS];simp),List.getElem?_append_right (by omega),hS,Nat.sub_self];rfl
          ·rw[hR,←hrs,List.take_left,hrs];exact hH1
          ·cases last with
           |none=>left;rw[hcp];exact hl2 rfl
           |some c=>
            right
            obtain ⟨⟨y,hy⟩,h2⟩:=hl1 c rfl
            have hcl:=(List.getElem?_eq_some_iff.1 hy).1
            exact ⟨c,y,by rw[hR,List.getElem?_append_left hcl];exact hy,by rw[hcp,hR,uZ (Nat.le_of_lt hcl)];exact h2,hb⟩
def fM (listed:Array Bool) (i:Nat):Bool:=listed.getD i false
theorem om {listed:Array Bool} {i j:Nat} (h:i<listed.size):fM (listed.setIfInBounds i true) j=(fM listed j||Nat.beq j i):=by
 unfold fM
 by_cases e:i=j
 ·subst e
  rw[show Nat.beq i i=true from Nat.beq_refl i,Bool.or_true]
  simp[h]
 ·rw[getD_set_ne false e]
  have:Nat.beq j i=false:=by cases hb:Nat.beq j i with
   |false=>rfl
   |true=>exact absurd (Nat.eq_of_beq_eq_true hb).symm e
  rw[this,Bool.or_false]
theorem mT {l:List Oper} {am:List Nat} (h:sY l am=true):pQ l∧(∀(i:Nat) (o:Oper) t,l[i]?=some o→t∈vd l o→∀(j:Nat) (o':Oper),l[j]?=some o'→o'.dst=some t→((am[i]?).getD 0).testBit j=true) ∧
  ∀(i j:Nat) (o o':Oper) d,l[i]?=some o→l[j]?=some o'→o.dst=some d→o'.dst=some d→i=j:=by
 have key:∀i o,l[i]?=some o→(o.after.toList.all (fun e=>!Region.binds .any e||Nat.blt e.on i) &&
    (List.range l.length).all fun j=>match (l[j]?).bind (·.dst) with
     |some d=>(!nF d (vd l o)||((am[i]?).getD 0).testBit j)&&(Nat.beq i j||!(match o.dst with
      |some d'=>Nat.beq d d'
      |none=>false))
     |none=>true)=true:=fun i o ho=>by
  unfold sY at h
  have:=List.all_eq_true.1 h i (List.mem_range.2 (List.getElem?_eq_some_iff.1 ho).1)
  rw[ho] at this
  exact this
 have key2:∀(i j:Nat) (o o':Oper) d,l[i]?=some o→l[j]?=some o'→o'.dst=some d→(nF d (vd l o)=true→((am[i]?).getD 0).testBit j=true)∧(o.dst=some d→i=j):=fun i j o o' d ho ho' hd=>by
  have h1:=key i o ho
  simp only[w6] at h1
  have h2:=List.all_eq_true.1 h1.2 j (List.mem_range.2 (List.getElem?_eq_some_iff.1 ho').1)
  rw[ho'] at h2
  simp only[Option.bind_some,hd,w6,Bool.or_eq_true,Bool.not_eq_true'] at h2
  refine ⟨fun hm=>h2.1.resolve_left (by rw[hm];decide),fun hod=>?_⟩
  rcases h2.2 with h3|h3
  ·exact Nat.eq_of_beq_eq_true h3
  ·rw[hod] at h3
   simp only at h3
   rw[show Nat.beq d d=true from Nat.beq_refl d] at h3;cases h3
 refine ⟨fun i o ho e he hb=>?_,fun i o t ho ht j o' ho' hd=>(key2 i j o o' t ho ho' hd).1 (gy.2 ht),fun i j o o' d ho ho' hd hd'=>(key2 i j o o' d ho ho' hd').2 hd⟩
 have h1:=key i o ho
 simp only[w6] at h1
 have h2:=List.all_eq_true.1 h1.1 e (by simpa using he)
 rw[hb] at h2
 have h2:Nat.blt e.on i=true:=by simpa using h2
 exact Nat.le_of_ble_eq_true h2
structure dq (φ0:cN) (I0:aP) (F:List (Nat × Obj)) (E:World) (nx0:Nat) (l:List Oper) (R:List Rc) (GF:Tr EV) (S:List wF) (X:Nat→Bool) (j:Nat) (φ:cN) (I:aP) (H:Hp) (nx fl:Nat) (ρ:bU) (w:World):Prop where
 closed:mf l X
 stage:S[j]?=some (H,nx,fl)
 chain:∀i y,R[i]?=some (.cv y)→(X i=true↔ee R i<j)
 flX:∀a,fl.testBit a=true→X a=true
 slots:∀t,(∀(i:Nat) (o:Oper),l[i]?=some o→o.dst=some t→X i=true)→aY φ (gt GF t) (ρ t)
 free:∀i,i<l.length→X i=false→φ (nx0+i)=none
 le:φ0.le φ
 leI:I0.le I
 keep:∀t,t<nx0→φ t=φ0 t
 top:nx0+l.length≤nx
 mem:∃Lx,gp I φ (bT nx0 (fun a=>X a&&!fl.testBit a) R 0) Lx∧dg I φ H nx (Lx++F) E w
section
variable {φ0 φ:cN} {I0 I:aP} {F:List (Nat × Obj)} {E w:World} {nx0:Nat} {l:List Oper} {R:List Rc} {GF:Tr EV} {S:List wF} {X:Nat→Bool} {j:Nat} {H:Hp} {nx fl:Nat} {ρ:bU}
theorem dq.closed' (h:dq φ0 I0 F E nx0 l R GF S X j φ I H nx fl ρ w) {i:Nat} {o:Oper} (ho:l[i]?=some o) (hr:∀e∈o.after,Region.binds .any e=true→X e.on=true):mf l (fun a=>X a||Nat.beq a i):=fun a o' ha ho' e he hb=>by
 simp only[Bool.or_eq_true] at ha ⊢
 rcases ha with ha|ha
 ·exact .inl (h.closed a o' ha ho' e he hb)
 ·have:=Nat.eq_of_beq_eq_true ha
  subst this
  rw[ho] at ho';cases ho'
  exact .inl (hr e he hb)
theorem dq.slots' (h:dq φ0 I0 F E nx0 l R GF S X j φ I H nx fl ρ w) {i:Nat} {o:Oper} (ho:l[i]?=some o) {x:EV} {v:Value} {ψ:cN} (hle:φ.le ψ) (hx:aY ψ x v) (hd:∀d,o.dst=some d→gt GF d=x) :
  ∀t,(∀(i':Nat) (o':Oper),l[i']?=some o'→o'.dst=some t→(X i'||Nat.beq i' i)=true)→aY ψ (gt GF t) (updO ρ o.dst v t):=fun t ht=>by
 by_cases e:o.dst=some t
 ·rw[hd t e,e]
  show aY ψ x (upd ρ t v t)
  rw[fT];exact hx
 ·have:updO ρ o.dst v t=ρ t:=by
   cases hdd:o.dst with
   |none=>rfl
   |some d=>exact dG _ _ fun e2=>e (by rw[hdd,e2])
  rw[this]
  refine (h.slots t fun i' o' ho' hd'=>?_).mono hle
  have:=ht i' o' ho' hd'
  simp only[Bool.or_eq_true] at this
  rcases this with h1|h1
  ·exact h1
  ·have:=Nat.eq_of_beq_eq_true h1
   subst this
   rw[ho] at ho';cases ho'
   exact absurd hd' e
theorem dq.quiet (h:dq φ0 I0 F E nx0 l R GF S X j φ I H nx fl ρ w) {i:Nat} {o:Oper} (ho:l[i]?=some o) (hr:∀e∈o.after,Region.binds .any e=true→X e.on=true) {r:Rc} (hR:R[i]?=some r) (hcv:fj r=false) (hav:∀x vo,r≠.av x vo) {v:Value} (hx:aY φ r.x v) (hd:∀d,o.dst=some d→gt GF d=r.x) :
  dq φ0 I0 F E nx0 l R GF S (fun a=>X a||Nat.beq a i) j φ I H nx fl (updO ρ o.dst v) w:=by
 refine ⟨h.closed' ho hr,h.stage,fun i' y hy=>?_,fun a ha=>by rw[h.flX a ha];rfl,h.slots' ho (.refl _) hx hd,fun i' hi' hx'=>h.free i' hi' ?_,h.le,h.leI,h.keep,h.top,?_⟩
 ·rw[←h.chain i' y hy]
  have:Nat.beq i' i=false:=by cases hb:Nat.beq i' i with
   |false=>rfl
   |true=>
    have:=Nat.eq_of_beq_eq_true hb
    subst this
    rw[hR] at hy;cases hy;cases hcv
  rw[this,Bool.or_false]
 ·cases hX:X i' with
  |false=>rfl
  |true=>rw[hX] at hx';cases hx'
 ·obtain ⟨Lx,h1,h2⟩:=h.mem
  refine ⟨Lx,?_,h2⟩
  rw[eC (q:=fun a=>X a&&!fl.testBit a) R 0 fun a x vo ha=>?_]
  ·exact h1
  ·rw[Nat.zero_add]
   have:Nat.beq a i=false:=by cases hb:Nat.beq a i with
    |false=>rfl
    |true=>
     have:=Nat.eq_of_beq_eq_true hb
     subst this
     rw[hR] at ha;cases ha;exact absurd rfl (hav x vo)
   simp only[this,Bool.or_false]
end
theorem Dl {nx0 i:Nat} {R:List Rc} {x:EV} {vo:VO} (h:R[i]?=some (.av x vo)):bT nx0 (fun a=>Nat.beq a i) R 0=[(nx0+i,vo)]:=by
 obtain ⟨hlt,he⟩:=List.getElem?_eq_some_iff.1 h
 have hR:R=R.take i++(.av x vo::R.drop (i+1)):=by
  rw[←he,←List.drop_eq_getElem_cons hlt,List.take_append_drop]
 have hb:∀a,a≠i→Nat.beq a i=false:=fun a ha=>by
  cases hb:Nat.beq a i with
  |false=>rfl
  |true=>exact absurd (Nat.eq_of_beq_eq_true hb) ha
 have hl:(R.take i).length=i:=by rw[w3];omega
 rw[hR,mS,hl,Nat.zero_add]
 have h1:bT nx0 (fun a=>Nat.beq a i) (R.take i) 0=[]:=by
  rw[eC (q:=fun _=>false) (R.take i) 0 fun j y o hj=>?_]
  ·exact gA _ _ fun _ _=>rfl
  ·have:=(List.getElem?_eq_some_iff.1 hj).1
   rw[hl] at this
   exact hb _ (by omega)
 have h2:bT nx0 (fun a=>Nat.beq a i) (R.drop (i+1)) (i+1)=[]:=gA _ _ fun a ha=>hb a (by omega)
 rw[h1,List.nil_append]
 show (bif Nat.beq i i then (nx0+i,vo)::bT nx0 (fun a=>Nat.beq a i) (R.drop (i+1)) (i+1) else bT nx0 (fun a=>Nat.beq a i) (R.drop (i+1)) (i+1))=_
 rw[show Nat.beq i i=true from Nat.beq_refl i,h2];rfl
section
variable {P:Program} {T:TT} {φ0 φ:cN} {I0 I:aP} {F:List (Nat × Obj)} {E w:World} {nx0:Nat} {l:List Oper} {R:List Rc} {GF:Tr EV} {S:List wF} {X:Nat→Bool} {j:Nat} {H:Hp} {nx fl:Nat} {ρ:bU}
theorem dq.make (hT:cW P T) (h:dq φ0 I0 F E nx0 l R GF S X j φ I H nx fl ρ w) {i:Nat} {o:Oper} (ho:l[i]?=some o) (hXi:X i=false) (hr:∀e∈o.after,Region.binds .any e=true→X e.on=true) {x:EV} {vo:VO} (hR:R[i]?=some (.av x vo)) {g:Nat→EV} (hg:eF φ g ρ) (hx:J1 T g (nx0+i) o.op=some (x,vo)) (hd:∀d,o.dst=some d→gt GF d=x) :
  ei P o ρ w fun v w'=>∃φ',dq φ0 I0 F E nx0 l R GF S (fun a=>X a||Nat.beq a i) j φ' I H nx fl (updO ρ o.dst v) w':=by
 have hil:i<l.length:=(List.getElem?_eq_some_iff.1 ho).1
 have hk:=h.free i hil hXi
 have hkx:nx0+i<nx:=by have:=h.top;omega
 obtain ⟨Lx,hm,hRel⟩:=h.mem
 obtain ⟨M,L,hn,hM,hrep,hS⟩:=hRel.ex
 obtain ⟨v,w',q,A,h1,h2,h3,h4⟩:=E8 (P:=P) hT hg hx hk hS
 have hle:=qk hk q
 refine ei.val h1 ⟨φ.put (nx0+i) q,h.closed' ho hr,h.stage,fun i' y hy=>?_,fun a ha=>by rw[h.flX a ha];rfl,h.slots' ho hle h2 hd,fun i' hi' hx'=>?_,h.le.trans hle,h.leI,fun t ht=>by rw[lB φ q (by omega)];exact h.keep t ht,h.top,?_⟩
 ·rw[←h.chain i' y hy]
  have:Nat.beq i' i=false:=by cases hb:Nat.beq i' i with
   |false=>rfl
   |true=>
    have:=Nat.eq_of_beq_eq_true hb
    subst this
    rw[hR] at hy;cases hy
  rw[this,Bool.or_false]
 ·simp only[Bool.or_eq_false_iff] at hx'
  have:i'≠i:=fun e=>by rw[e,show Nat.beq i i=true from Nat.beq_refl i] at hx';cases hx'.2
  rw[lB φ q (by omega)];exact h.free i' hi' hx'.1
 ·have hfi:fl.testBit i=false:=by cases hb:fl.testBit i with
   |false=>rfl
   |true=>rw[h.flX i hb] at hXi;cases hXi
  have hp:(bT nx0 (fun a=>(X a||Nat.beq a i)&&!fl.testBit a) R 0).Perm ((nx0+i,vo)::bT nx0 (fun a=>X a&&!fl.testBit a) R 0):=by
   have hs:=ez (nx0:=nx0) (p:=fun a=>(X a||Nat.beq a i)&&!fl.testBit a) (q:=fun a=>Nat.beq a i) R 0 fun a ha=>by
    have:=Nat.eq_of_beq_eq_true ha
    subst this
    simp[hfi]
   have e3:bT nx0 (fun a=>(X a||Nat.beq a i)&&!fl.testBit a&&!Nat.beq a i) R 0=bT nx0 (fun a=>X a&&!fl.testBit a) R 0:=eC R 0 fun a y o' ha=>by
    rw[Nat.zero_add]
    cases hb:Nat.beq a i with
    |false=>simp
    |true=>
     have:=Nat.eq_of_beq_eq_true hb
     subst this
     simp[hXi]
   rw[Dl hR,e3] at hs
   exact hs
  obtain ⟨L',h5,h6⟩:=gp.perm hp.symm (L:=A++Lx) ⟨A,Lx,rfl,h3,hm.mono (.refl _) hle⟩
  refine ⟨L',h5,mc hRel.top hkx q,M,L,hn,hM,hrep.mono (.refl _) hle,h4.perm ?_⟩
  refine ((h6.symm.append_right F).append_left L).trans ?_
  rw[qs,←qs,←qs A]
  exact List.perm_append_comm.append_right _
end
theorem yM {R:List Rc} {i i':Nat} {y:EV} (h:i<i') (hi:R[i]?=some (.cv y)):ee R i<ee R i':=by
 have hlt:=(List.getElem?_eq_some_iff.1 hi).1
 have h1:ee R (i+1)=ee R i+1:=by
  unfold ee
  obtain ⟨_,he⟩:=List.getElem?_eq_some_iff.1 hi
  rw[qr hlt,he,List.filter_append,qw];rfl
 have h2:ee R (i+1)≤ee R i':=by
  unfold ee
  exact ((List.take_sublist_take_left (l:=R) (show i+1≤i' from h)).filter fj).length_le
 omega
section
variable {P:Program} {T:TT} {call:cb} {φ0 φ:cN} {I0 I:aP} {F:List (Nat × Obj)} {E w:World} {nx0:Nat} {l:List Oper} {R:List Rc} {GF:Tr EV} {S:List wF} {X:Nat→Bool} {j:Nat} {H:Hp} {nx fl:Nat} {ρ:bU}
theorem dq.heap (h:dq φ0 I0 F E nx0 l R GF S X j φ I H nx fl ρ w) {i m:Nat} (hi:i≤R.length) (hb:∀a,m.testBit a=true→a<i∧X a=true) {H1:Hp} (ha:sX (bT nx0 (qA fl m) (R.take i) 0) H=some H1) :
  ∃B,gp I φ (bT nx0 (fun a=>(X a&&!fl.testBit a)&&!qA fl m a) R 0) B∧dg I φ H1 nx (B++F) E w:=by
 obtain ⟨Lx,hm,hR⟩:=h.mem
 have hq:∀a,qA fl m a=true→(fun a=>X a&&!fl.testBit a) a=true:=fun a hq=>by
  unfold qA at hq
  simp only[w6] at hq ⊢
  exact ⟨(hb a hq.1).2,hq.2⟩
 have hs:=ez (nx0:=nx0) R 0 hq
 have hpre:bT nx0 (qA fl m) R 0=bT nx0 (qA fl m) (R.take i) 0:=by
  have e:bT nx0 (qA fl m) (R.take i++R.drop i) 0=bT nx0 (qA fl m) (R.take i) 0++bT nx0 (qA fl m) (R.drop i) (0+(R.take i).length):=mS _ _ _ _
  rw[List.take_append_drop] at e
  rw[e,gA (R.drop i) _ fun a ha=>?_,List.append_nil]
  rw[w3] at ha
  unfold qA
  cases hbit:m.testBit a with
  |false=>rfl
  |true=>have:=(hb a hbit).1;omega
 obtain ⟨L',h1,h2⟩:=hm.perm hs
 obtain ⟨A,B,rfl,h3,h4⟩:=gp.app h1
 rw[hpre] at h3
 exact ⟨B,h4,dg.takeAll h3 ha (by rw[←qs];exact hR.permF (h2.symm.append_right F))⟩
theorem dq.write (hT:cW P T) (hC:db P E call) (h:dq φ0 I0 F E nx0 l R GF S X j φ I H nx fl ρ w) {i m:Nat} {o:Oper} (ho:l[i]?=some o) (hil:i<R.length) (hXi:X i=false) (hr:∀e∈o.after,Region.binds .any e=true→X e.on=true) (hb:∀a,m.testBit a=true→a<i∧X a=true) {x:EV} (hR:R[i]?=some (.cv x)) (hj:ee R i=j)
  {H1 H':Hp} {nx':Nat} (hS:S[j+1]?=some (H',nx',fl ||| m)) (ha:sX (bT nx0 (qA fl m) (R.take i) 0) H=some H1) {g:Nat→EV} (hg:eF φ g ρ) (hx:Fj T call g H1 (nx0+i) nx o.op=some (x,H',nx')) (hd:∀d,o.dst=some d→gt GF d=x) :
  ei P o ρ w fun v w'=>∃φ' I',dq φ0 I0 F E nx0 l R GF S (fun a=>X a||Nat.beq a i) (j+1) φ' I' H' nx' (fl ||| m) (updO ρ o.dst v) w':=by
 have hil2:i<l.length:=(List.getElem?_eq_some_iff.1 ho).1
 have hk:=h.free i hil2 hXi
 have hkx:nx0+i<nx:=by have:=h.top;omega
 obtain ⟨B,hB,hRel⟩:=h.heap (Nat.le_of_lt hil) hb ha
 have hop:ei P o ρ w (d6 φ I (B++F) E (nx0+i) nx x H' nx'):=by
  unfold Fj at hx
  split at hx
  ·rename_i y H2 hc
   cases hx
   exact Fe hT hg hRel hk hkx hc
  ·exact yI hT hC hg hRel hx
 refine hop.mono fun v w' ⟨J,ψ,a,b,c,d,e,f⟩=>⟨ψ,J,h.closed' ho hr,hS,fun i' y hy=>?_,fun t ht=>?_,h.slots' ho b e hd,fun i' hi' hx'=>?_,h.le.trans b,h.leI.trans a,fun t ht=>by rw[c t (by have:=h.top;omega) (by omega)];exact h.keep t ht,by have:=h.top;omega,B,?_,f⟩
 ·by_cases e2:i'=i
  ·subst e2
   rw[hj,show Nat.beq i' i'=true from Nat.beq_refl i',Bool.or_true]
   simp
  ·have hbq:Nat.beq i' i=false:=by cases hb2:Nat.beq i' i with
    |false=>rfl
    |true=>exact absurd (Nat.eq_of_beq_eq_true hb2) e2
   rw[hbq,Bool.or_false,h.chain i' y hy]
   have hne:ee R i'≠j:=fun e3=>by
    rcases Nat.lt_or_gt_of_ne e2 with h1|h1
    ·have:=yM h1 hy;omega
    ·have:=yM h1 hR;omega
   omega
 ·rw[Nat.testBit_or,Bool.or_eq_true] at ht
  rcases ht with h1|h1
  ·rw[h.flX t h1];rfl
  ·rw[(hb t h1).2];rfl
 ·simp only[Bool.or_eq_false_iff] at hx'
  have:i'≠i:=fun e=>by rw[e,show Nat.beq i i=true from Nat.beq_refl i] at hx';cases hx'.2
  rw[c _ (by have:=h.top;omega) (by omega)];exact h.free i' hi' hx'.1
 ·rw[eC (q:=fun a=>(X a&&!fl.testBit a)&&!qA fl m a) R 0 fun t y o' ht=>?_]
  ·exact hB.mono a b
  ·rw[Nat.zero_add]
   have hbq:Nat.beq t i=false:=by cases hb2:Nat.beq t i with
    |false=>rfl
    |true=>
     have:=Nat.eq_of_beq_eq_true hb2
     subst this
     rw[hR] at ht;cases ht
   simp only[hbq,Bool.or_false,qA,Nat.testBit_or]
   cases X t<;>cases fl.testBit t<;>cases m.testBit t<;>rfl
end
theorem pU:∀n,(∀x y,gz.eqE n x y=true→x=y)∧∀l m,gz.eqL n l m=true→l=m
 |0=>⟨fun x y h=>(by unfold gz.eqE at h;cases h),fun l m h=>(by unfold gz.eqL at h;cases h)⟩
 |n+1=>by
  obtain ⟨ih1,ih2⟩:=pU n
  have nb:∀{a b:Nat},Nat.beq a b=true→a=b:=fun h=>Nat.eq_of_beq_eq_true h
  constructor
  ·intro x y h
   unfold gz.eqE at h
   split at h
   case h_8=>
    rename_i a b c d e a' b' c' d' e'
    simp only[w6] at h
    obtain ⟨⟨⟨⟨h1,h2⟩,h3⟩,h4⟩,h5⟩:=h
    rw[nb h1,nb h2,nb h3,nb h4]
    split at h5
    ·rw[nb h5]
    ·rfl
    ·rfl
    ·cases h5
   all_goals first
    |rfl
    |(cases h;done)
    |(simp only[w6,wa] at h;rw[h.1,h.2];done)
    |(simp only[w6] at h;rw[nb h.1,nb h.2];done)
    |(simp only[w6] at h;rw[nb h.1.1,nb h.1.2,nb h.2];done)
    |(rw[ih2 _ _ h];done)
    |(rw[nb h];done)
    |(simp only[w6] at h;rw[nb h.1.1,ih2 _ _ h.1.2,ih2 _ _ h.2];done)
    |(simp only[w6] at h;rw[nb h.1,ih1 _ _ h.2];done)
    |(rw[iT] at h;rw[w9 h];done)
    |(rw[beq_iff_eq.1 h];done)
  ·intro l m h
   unfold gz.eqL at h
   split at h
   ·cases ‹_=0›
   ·rfl
   ·simp only[w6] at h
    first
     |rw[ih1 _ _ h.1,ih2 _ _ h.2]
     |(rename_i e;cases e;rw[ih1 _ _ h.1,ih2 _ _ h.2])
   ·cases h
theorem pV {l:List Oper} {X:Nat→Bool} (hX:mf l X) (hE:pQ l) {i:Nat} {o:Oper} (ho:l[i]?=some o) (hr:∀e∈o.after,Region.binds .any e=true→X e.on=true):∀a,(((iV l [])[i]?).getD 0).testBit a=true→a<i∧X a=true:=fun a ha=>by
 cases hm:(iV l [])[i]? with
 |none=>rw[hm] at ha;simp at ha
 |some m=>
  rw[hm] at ha
  obtain ⟨h1,h2⟩:=Fi hX hE i m o hm ho
  exact ⟨h1 a ha,h2 hr a ha⟩
theorem wH {p q:Nat→Bool} {i:Nat} (hp:p i=true) (hq:q i=false) (h:∀a,q a=true→p a=true):∀l:List Nat,i∈l→(l.filter q).length<(l.filter p).length
 |[],hi=>by cases hi
 |a::l,hi=>by
  have le:∀l:List Nat,(l.filter q).length≤(l.filter p).length:=fun l=>by
   induction l with
   |nil=>exact Nat.le_refl _
   |cons b l ih=>
    rw[List.filter_cons,List.filter_cons]
    cases hb:q b with
    |true=>rw[if_pos rfl,if_pos (h b hb)];simpa using ih
    |false=>rw[if_neg (by decide)];split<;>(try rw[List.length_cons])<;>omega
  rcases List.mem_cons.1 hi with rfl|hi
  ·rw[List.filter_cons,List.filter_cons,if_neg (by rw[hq];decide),if_pos hp,List.length_cons]
   have:=le l;omega
  ·have ih:=wH hp hq h l hi
   rw[List.filter_cons,List.filter_cons]
   cases hb:q a with
   |true=>rw[if_pos rfl,if_pos (h a hb)];simpa using ih
   |false=>rw[if_neg (by decide)];split<;>(try rw[List.length_cons])<;>omega
section
variable {P:Program} {T:TT} {call:cb} {φ0 φ:cN} {I0 I:aP} {F:List (Nat × Obj)} {E w:World} {nx0:Nat} {l:List Oper} {R:List Rc} {GF G0:Tr EV} {S S0:List wF} {X:Nat→Bool} {j:Nat} {H:Hp} {nx fl:Nat} {ρ:bU}
theorem dq.step (hT:cW P T) (hC:db P E call) (hst:sY l (iV l [])=true) (hP:pS T call l (iV l []) nx0 0 [] G0 S0 R GF S) (hL:gz T l (iV l []) nx0 R GF S=true) (h:dq φ0 I0 F E nx0 l R GF S X j φ I H nx fl ρ w) {i:Nat} {o:Oper} (ho:l[i]?=some o) (hXi:X i=false) (hr:∀e∈o.after,Region.binds .any e=true→X e.on=true) :
  bL P l.toArray (fun ρ' w'=>∃j φ I H nx fl,dq φ0 I0 F E nx0 l R GF S (fun a=>X a||Nat.beq a i) j φ I H nx fl ρ' w') [o] ρ w:=by
 obtain ⟨hE,hW,_⟩:=mT hst
 obtain ⟨⟨rr,hRR,hlen⟩,_,hSl,_,hall⟩:=hP
 obtain ⟨r,hRi,⟨t,hw,hf,htr⟩,hd⟩:=hall i o (qt _) ho
 have hbits:=pV h.closed hE ho hr
 have hgm:eF φ (Dj (vd l o) GF) ρ:=fun t'=>by
  unfold Dj
  cases hm:nF t' (vd l o) with
  |false=>trivial
  |true=>exact h.slots t' fun i' o' ho' hd'=>(hbits i' (hW i o t' ho (gy.1 hm) i' o' ho' hd')).2
 have hwt:=yK hgm hw
 have hil:i<R.length:=(List.getElem?_eq_some_iff.1 hRi).1
 unfold bL
 rw[hwt]
 cases t with
 |false=>
  rw[if_neg (by decide)]
  have:=hf rfl
  subst this
  exact ⟨j,φ,I,H,nx,fl,h.quiet ho hr hRi rfl (fun _ _ e=>by cases e) (v:=undef) ⟨[],rfl,rfl⟩ hd⟩
 |true=>
  rw[if_pos rfl]
  have htr:=htr rfl
  cases r with
  |pv x=>
   obtain ⟨v,h1,h2⟩:=E4 (P:=P) (w:=w) hT hgm htr
   exact ei.val h1 ⟨j,φ,I,H,nx,fl,h.quiet ho hr hRi rfl (fun _ _ e=>by cases e) h2 hd⟩
  |av x vo=>exact (h.make hT ho hXi hr hRi hgm htr hd).mono fun v w' ⟨φ',h'⟩=>⟨j,φ',I,H,nx,fl,h'⟩
  |lv x=>
   have hmay:wG R (iV l []) i j=true:=by
    unfold wG
    refine List.all_eq_true.2 fun c hc=>?_
    have hcl:=List.mem_range.1 hc
    split
    ·rename_i y hy
     have hcc:=h.chain c y hy
     simp only[w6,Bool.or_eq_true,Bool.not_eq_true']
     constructor
     ·cases hb:(((iV l [])[i]?).getD 0).testBit c with
      |false=>exact .inl rfl
      |true=>exact .inr (Nat.ble_eq_true_of_le (hcc.1 (hbits c hb).2))
     ·cases hb:(((iV l [])[c]?).getD 0).testBit i with
      |false=>exact .inl rfl
      |true=>
       refine .inr (Nat.ble_eq_true_of_le ?_)
       refine Nat.le_of_not_lt fun hlt=>?_
       have hXc:=hcc.2 hlt
       have hcl2:c<l.length:=by rw[hRR,List.nil_append] at hcl;omega
       have:=(pV h.closed hE (qq hcl2) (fun e he hb=>h.closed c _ hXc (qq hcl2) e he hb) i hb).2
       rw[hXi] at this;cases this
    ·rfl
   unfold gz at hL
   have h1:=List.all_eq_true.1 hL i (List.mem_range.2 hil)
   rw[hRi,ho] at h1
   simp only at h1
   have hjl:=(List.getElem?_eq_some_iff.1 h.stage).1
   have h2:=List.all_eq_true.1 h1 j (List.mem_range.2 hjl)
   rw[hmay,h.stage] at h2
   simp only[Bool.not_true,Bool.false_or] at h2
   split at h2
   ·rename_i H1 hadd
    split at h2
    ·rename_i y hy
     have hxy:=(pU 40).1 x y h2
     subst hxy
     obtain ⟨B,hB,hRel⟩:=h.heap (Nat.le_of_lt hil) hbits hadd
     obtain ⟨v,h3,h4⟩:=E7 hT hgm hRel hy
     exact ei.val h3 ⟨j,φ,I,H,nx,fl,h.quiet ho hr hRi rfl (fun _ _ e=>by cases e) h4 hd⟩
    ·cases h2
   ·cases h2
  |cv x=>
   obtain ⟨H2,nx2,fl2,H1,H',nx',s1,s2,s3,s4,s5⟩:=htr
   have hge:¬ee R i<j:=fun hlt=>by rw[(h.chain i x hRi).2 hlt] at hXi;cases hXi
   have hj:ee R i=j:=by
    rcases s5 with e|⟨c,y,hc,e,hb⟩
    ·omega
    ·have:=(h.chain c y hc).1 (hbits c hb).2
     omega
   rw[hj,h.stage] at s1
   cases s1
   rw[hj] at s2
   exact (h.write hT hC ho hil hXi hr hbits hRi hj s2 s3 hgm s4 hd).mono fun v w' ⟨φ',I',h'⟩=>⟨j+1,φ',I',H',nx',_,h'⟩
end
theorem yN:∀(R:List Rc),0<(R.filter fj).length→∃c y,R[c]?=some (.cv y)∧ee R c+1=(R.filter fj).length
 |[],h=>by simp at h
 |r::R,h=>by
  have hc:∀c,ee (r::R) (c+1)=(if fj r=true then 1 else 0)+ee R c:=fun c=>by
   unfold ee
   rw[List.take_succ_cons,List.filter_cons]
   split
   ·rw[List.length_cons];omega
   ·omega
  have hf:((r::R).filter fj).length=(if fj r=true then 1 else 0)+(R.filter fj).length:=by
   rw[List.filter_cons]
   split
   ·rw[List.length_cons];omega
   ·omega
  by_cases hR:0<(R.filter fj).length
  ·obtain ⟨c,y,h1,h2⟩:=yN R hR
   exact ⟨c+1,y,by simpa using h1,by rw[hc,hf];omega⟩
  ·cases r with
   |cv y=>exact ⟨0,y,rfl,by rw[hf];show 0+1=1+_;omega⟩
   |pv x=>exact absurd h (by rw[hf,if_neg (fun e=>by cases e)];omega)
   |lv x=>exact absurd h (by rw[hf,if_neg (fun e=>by cases e)];omega)
   |av x o=>exact absurd h (by rw[hf,if_neg (fun e=>by cases e)];omega)
section
variable {P:Program} {φ:cN} {ρ:bU} {w:World} {T:TT} {I:aP} {F:List (Nat × Obj)} {E:World} {call:cb}
theorem rZ (hT:cW P T) (hC:db P E call) {l:List Oper} {G G':Tr EV} {H H':Hp} {nx nx':Nat} (h:sZ T call l G H nx=some (G',H',nx')) (hg:eF φ (gt G) ρ) (hR:dg I φ H nx F E w) {Q:bU→World→Prop} (hQ:∀ρ' w',gx φ I F E nx G' H' nx' ρ' w'→Q ρ' w') :
  bR P l.toArray (fun _=>True) (fun _=>True) (fun _=>false) Q l.length (Array.replicate l.length false) ρ w:=by
 unfold sZ at h
 dsimp only at h
 cases hst:sY l (iV l []) with
 |false=>rw[hst] at h;cases h
 |true=>
  rw[hst] at h
  simp only[cond_true] at h
  obtain ⟨hE,hW,hD⟩:=mT hst
  split at h
  ·rename_i R GF S hpass
   cases hL:gz T l (iV l []) nx R GF S with
   |false=>rw[hL] at h;cases h
   |true=>
    rw[hL] at h
    simp only[cond_true] at h
    split at h
    ·rename_i Hm nm flm hlast
     split at h
     ·rename_i H2 hadd
      cases h
      have hP:=pT hD (fun i o t ho ht j o' ho' hd'=>(pV (X:=fun _=>true) (fun _ _ _ _ _ _ _=>rfl) hE ho (fun _ _ _=>rfl) j (hW i o t ho ht j o' ho' hd')).1) l 0 [] G [(H,nx+l.length,0)] H (nx+l.length) 0 none R G' S rfl (qt _) rfl rfl rfl (fun c hc=>by cases hc) (fun _=>rfl) hpass
      obtain ⟨⟨rr,hRR,hlen⟩,⟨ss,hSS⟩,hSl,hGF,_⟩:=id hP
      have hRl:R.length=l.length:=by rw[hRR,List.nil_append];omega
      have fin:∀(X:Nat→Bool) ρ' w',(∀i,i<l.length→X i=true)→(∃j ψ J H1 n1 fl,dq φ I F E nx l R G' S X j ψ J H1 n1 fl ρ' w')→Q ρ' w':=fun X ρ' w' hall ⟨j,ψ,J,H1,n1,fl,hi⟩=>by
       have hjl:=(List.getElem?_eq_some_iff.1 hi.stage).1
       have hj:j=(R.filter fj).length:=by
        by_cases h0:0<(R.filter fj).length
        ·obtain ⟨c,y,h1,h2⟩:=yN R h0
         have hc:=(List.getElem?_eq_some_iff.1 h1).1
         have:=(hi.chain c y h1).1 (hall c (by omega))
         omega
        ·omega
       rw[List.getLast?_eq_getElem?,hSl,Nat.add_sub_cancel,←hj,hi.stage] at hlast
       cases hlast
       obtain ⟨Lx,h1,h2⟩:=hi.mem
       rw[eC (q:=fun a=>!flm.testBit a) R 0 fun a y o ha=>by
        have:=(List.getElem?_eq_some_iff.1 ha).1
        rw[Nat.zero_add,hall a (by omega),Bool.true_and]] at h1
       exact hQ ρ' w' ⟨J,ψ,hi.leI,hi.le,hi.keep,by have:=hi.top;omega,fun t=>hi.slots t fun i' o' ho' _=>hall i' (List.getElem?_eq_some_iff.1 ho').1,dg.takeAll h1 hadd h2⟩
      have main:∀(fuel:Nat) (listed:Array Bool) (ρ':bU) (w':World),listed.size=l.length→((List.range l.length).filter fun i=>!fM listed i).length≤fuel→(∃j ψ J H1 n1 fl,dq φ I F E nx l R G' S (fM listed) j ψ J H1 n1 fl ρ' w')→bR P l.toArray (fun _=>True) (fun _=>True) (fun _=>false) Q fuel listed ρ' w':=by
       have rdy:∀(listed:Array Bool),listed.size=l.length→Region.ready .any l.toArray listed=[]→∀i,i<l.length→fM listed i=true:=fun listed hsz hre i=>by
        induction i using Nat.strongRecOn with
        |_ i ih=>
         intro hi
         cases hX:fM listed i with
         |true=>rfl
         |false=>
          have:i∈Region.ready .any l.toArray listed:=mem_ready.2 ⟨by
           unfold fM at hX
           have:i<listed.size:=by omega
           simp only[Array.getD_eq_getD_getElem?,Array.getElem?_eq_getElem this,Option.getD_some] at hX ⊢
           exact hX,l[i],by simp[hi],fun e he hb=>by
           have:=hE i l[i] (qq hi) e he hb
           exact ih e.on this (by omega)⟩
          rw[hre] at this;cases this
       intro fuel
       induction fuel with
       |zero=>
        intro listed ρ' w' hsz hc hi
        have hall:∀i,i<l.length→fM listed i=true:=fun i hil=>by
         cases hX:fM listed i with
         |true=>rfl
         |false=>
          have h0:(List.range l.length).filter (fun i=>!fM listed i)=[]:=List.eq_nil_of_length_eq_zero (by omega)
          have:=List.filter_eq_nil_iff.1 h0 i (List.mem_range.2 hil)
          rw[hX] at this;exact absurd rfl this
        refine ⟨?_,fin _ _ _ hall hi⟩
        refine List.eq_nil_iff_forall_not_mem.2 fun i hir=>?_
        obtain ⟨h1,o,ho,_⟩:=mem_ready.1 hir
        have hil:i<l.length:=by
         have:=(Array.getElem?_eq_some_iff.1 ho).1
         simpa using this
        have h2:=hall i hil
        unfold fM at h2
        have:i<listed.size:=by omega
        simp only[Array.getD_eq_getD_getElem?,Array.getElem?_eq_getElem this,Option.getD_some] at h1 h2
        rw[h1] at h2;cases h2
       |succ fuel ih=>
        intro listed ρ' w' hsz hc hi
        refine ⟨fun hre=>fin _ _ _ (rdy listed hsz hre) hi,fun i hir o ho=>?_⟩
        obtain ⟨h1,o2,ho2,hedge⟩:=mem_ready.1 hir
        rw[ho] at ho2;cases ho2
        have ho:l[i]?=some o:=by simpa using ho
        have hil:=(List.getElem?_eq_some_iff.1 ho).1
        have hXi:fM listed i=false:=by
         unfold fM
         have:i<listed.size:=by omega
         simp only[Array.getD_eq_getD_getElem?,Array.getElem?_eq_getElem this,Option.getD_some] at h1 ⊢
         exact h1
        obtain ⟨j,ψ,J,H1,n1,fl,hi⟩:=hi
        refine q5 (fun ρ2 w2 hi2=>⟨⟨trivial,.inr trivial⟩,ih _ ρ2 w2 (by simpa using hsz) ?_ ?_⟩) _ _ _ (hi.step hT hC hst hP hL ho hXi hedge)
        ·have hX:∀a,fM (listed.setIfInBounds i true) a=(fM listed a||Nat.beq a i):=fun a=>om (by omega)
         have:=wH (p:=fun i=>!fM listed i) (q:=fun a=>!fM (listed.setIfInBounds i true) a) (i:=i) (by rw[hXi];rfl) (by rw[hX,show Nat.beq i i=true from Nat.beq_refl i];simp) (fun a ha=>by rw[hX] at ha;simp at ha ⊢;exact ha.1) (List.range l.length) (List.mem_range.2 hil)
         omega
        ·have e:fM (listed.setIfInBounds i true)=fun a=>fM listed a||Nat.beq a i:=funext fun a=>om (by omega)
         rw[e];exact hi2
      have hX0:∀i,fM (Array.replicate l.length false) i=false:=fun i=>by
       unfold fM
       simp only[Array.getD_eq_getD_getElem?,Array.getElem?_replicate]
       split<;>rfl
      refine main l.length _ ρ w (by simp) (by have:=List.length_filter_le (fun i=>!fM (Array.replicate l.length false) i) (List.range l.length);simpa using this) ⟨0,φ,I,H,nx+l.length,0,?_⟩
      refine ⟨fun i o hx=>(by rw[hX0] at hx;cases hx),by rw[hSS];rfl,fun i y _=>(by rw[hX0];simp),fun a ha=>(by simp at ha),fun t ht=>?_,fun i _ _=>hR.top _ (by omega),.refl _,.refl _,fun _ _=>rfl,Nat.le_refl _,[],?_,hR.mono (by omega)⟩
      ·rw[hGF t fun i o _ ho hd'=>by have:=ht i o ho hd';rw[hX0] at this;cases this]
       exact hg t
      ·rw[gA R 0 fun a _=>by simp[hX0]];rfl
     ·cases h
    ·cases h
  ·cases h
end
def s7 (l:List Oper) (o:Oper):Bool:=(List.range l.length).all (fun i=>o.after.toList.any (fun e=>Region.binds .any e&&Nat.beq e.on i))&&(o.after.toList.all (fun e=>!Region.binds .any e||Nat.blt e.on l.length)&&o.guard.isNone&&l.all fun p=>p.guard.all fun g=>Nat.blt g.1 l.length)
noncomputable def s8 (T:TT) (call:cb) (l:List Oper) (G:Tr EV) (H:Hp) (nx:Nat):Option (Tr EV × Hp × Nat):=
 bif sY l (iV l []) then sZ T call l G H nx
 else match l.getLast? with
  |none=>none
  |some o=>bif sY l.dropLast (iV l.dropLast [])&&s7 l.dropLast o then
    match sZ T call l.dropLast G H nx with
    |some (G1,H1,n1)=>match Hh T call (gt G1) H1 n1 (n1+1) o.op with
     |some (x,H2,n2)=>some (setO G1 o.dst x,H2,n2)
     |none=>none
    |none=>none
   else none
theorem u4 {l:List Oper} {o:Oper} (h:s7 l o=true):(∀i,i<l.length→∃e∈o.after,Region.binds .any e=true∧e.on=i)∧o.guard=none∧(∀p∈l,∀j b,p.guard=some (j,b)→j<l.length)∧∀e∈o.after,Region.binds .any e=true→e.on<l.length:=by
 unfold s7 at h
 simp only[w6,w7,List.any_eq_true,List.mem_range] at h
 obtain ⟨h1,⟨h4,h2⟩,h3⟩:=h
 refine ⟨fun i hi=>?_,?_,fun p hp j b hg=>?_,fun e he hb=>?_⟩
 ·obtain ⟨e,he,hb,hj⟩:=h1 i hi
  exact ⟨e,by simpa using he,hb,Nat.eq_of_beq_eq_true hj⟩
 ·cases hg:o.guard with
  |none=>rfl
  |some g=>rw[hg] at h2;cases h2
 ·have:=h3 p hp
  rw[hg] at this
  exact Nat.le_of_ble_eq_true this
 ·have:=h4 e (by simpa using he)
  rw[hb] at this
  simpa using this
section
variable {P:Program} {l:List Oper} {o:Oper}
theorem mU {listed:Array Bool} {b:Bool} {i:Nat} (h:i<listed.size):(listed.push b).getD i true=listed.getD i true:=by
 simp only[Array.getD_eq_getD_getElem?]
 rw[Array.getElem?_push_lt (by omega),Array.getElem?_eq_getElem h]
theorem Dm {listed:Array Bool} {b:Bool}:(listed.push b).getD listed.size true=b:=by
 simp only[Array.getD_eq_getD_getElem?,Array.getElem?_push_size,Option.getD_some]
theorem u5 {p:Oper} {ρ:bU} (hg:∀j b,p.guard=some (j,b)→j<l.length):b8 (l++[o]).toArray p ρ=b8 l.toArray p ρ:=by
 unfold b8
 cases h:p.guard with
 |none=>rfl
 |some g=>
  obtain ⟨j,b⟩:=g
  have:=hg j b h
  have e:(l++[o]).toArray[j]?=l.toArray[j]?:=by simp only[List.getElem?_toArray];rw[List.getElem?_append_left this]
  simp only[e]
theorem Dn {Q Q':bU→World→Prop} (hlast:∀i,i<l.length→∃e∈o.after,Region.binds .any e=true∧e.on=i) (hon:∀e∈o.after,Region.binds .any e=true→e.on<l.length) (hE:pQ l) (hg:∀p∈l,∀j b,p.guard=some (j,b)→j<l.length)
  (hQ:∀ρ w,Q' ρ w→bL P (l++[o]).toArray Q [o] ρ w):∀(fuel:Nat) (listed:Array Bool) (ρ:bU) (w:World),listed.size=l.length→((List.range l.length).filter fun i=>!fM listed i).length≤fuel →
  bR P l.toArray (fun _=>True) (fun _=>True) (fun _=>false) Q' fuel listed ρ w→bR P (l++[o]).toArray (fun _=>True) (fun _=>True) (fun _=>false) Q (fuel+1) (listed.push false) ρ w:=by
 have hlen:(l++[o]).length=l.length+1:=by simp
 have rdy:∀(listed:Array Bool),listed.size=l.length→Region.ready .any l.toArray listed=[]→∀i,i<l.length→fM listed i=true:=fun listed hsz hre i=>by
  induction i using Nat.strongRecOn with
  |_ i ih=>
   intro hi
   cases hX:fM listed i with
   |true=>rfl
   |false=>
    have:i∈Region.ready .any l.toArray listed:=mem_ready.2 ⟨by
     unfold fM at hX
     have:i<listed.size:=by omega
     simp only[Array.getD_eq_getD_getElem?,Array.getElem?_eq_getElem this,Option.getD_some] at hX ⊢
     exact hX,l[i],by simp[hi],fun e he hb=>by
     have:=hE i l[i] (qq hi) e he hb
     exact ih e.on this (by omega)⟩
    rw[hre] at this;cases this
 have stP:∀(listed:Array Bool) (b:Bool) (i:Nat),i<listed.size→fM (listed.push b) i=fM listed i:=fun listed b i hi=>by
  unfold fM
  simp only[Array.getD_eq_getD_getElem?]
  rw[Array.getElem?_push_lt hi,Array.getElem?_eq_getElem hi]
 have stL:∀(listed:Array Bool) (b:Bool),fM (listed.push b) listed.size=b:=fun listed b=>by
  unfold fM
  simp only[Array.getD_eq_getD_getElem?,Array.getElem?_push_size,Option.getD_some]
 have fin:∀(fuel:Nat) (listed:Array Bool) (ρ:bU) (w:World),listed.size=l.length→(∀i,i<l.length→fM listed i=true)→Q' ρ w→bR P (l++[o]).toArray (fun _=>True) (fun _=>True) (fun _=>false) Q (fuel+1) (listed.push false) ρ w:=fun fuel listed ρ w hsz hall hq=>by
  have hmem:l.length∈Region.ready .any (l++[o]).toArray (listed.push false):=mem_ready.2 ⟨by rw[←hsz];exact Dm,o,by simp,fun e he hb=>by
   have h8:=hon e he hb
   show fM (listed.push false) e.on=true
   rw[stP listed false e.on (by omega)];exact hall e.on h8⟩
  refine ⟨fun hre=>(by rw[hre] at hmem;cases hmem),fun i hir p hp=>?_⟩
  ·obtain ⟨h1,p',hp',_⟩:=mem_ready.1 hir
   rw[hp] at hp';cases hp'
   have hp:(l++[o])[i]?=some p:=by simpa using hp
   have hil:=(List.getElem?_eq_some_iff.1 hp).1
   have hi:i=l.length:=by
    rcases (by omega:i<l.length∨i=l.length) with h|h
    ·have h2:=hall i h
     unfold fM at h2
     rw[mU (by omega)] at h1
     have:i<listed.size:=by omega
     simp only[Array.getD_eq_getD_getElem?,Array.getElem?_eq_getElem this,Option.getD_some] at h1 h2
     rw[h1] at h2;cases h2
    ·exact h
   subst hi
   have hpo:p=o:=by simpa using hp.symm
   subst hpo
   refine q5 (fun ρ2 w2 hq2=>⟨⟨trivial,.inr trivial⟩,?_⟩) _ _ _ (hQ ρ w hq)
   have hnone:Region.ready .any (l++[p]).toArray ((listed.push false).setIfInBounds l.length true)=[]:=List.eq_nil_iff_forall_not_mem.2 fun k hk=>by
    obtain ⟨h3,p3,hp3,_⟩:=mem_ready.1 hk
    have hkl:k<l.length+1:=by
     have:=(Array.getElem?_eq_some_iff.1 hp3).1
     simpa using this
    have h4:fM ((listed.push false).setIfInBounds l.length true) k=true:=by
     rw[om (by simp;omega)]
     rcases (by omega:k<l.length∨k=l.length) with h|h
     ·rw[stP listed false k (by omega),hall k h];rfl
     ·rw[h,show Nat.beq l.length l.length=true from Nat.beq_refl _,Bool.or_true]
    unfold fM at h4
    have:k<((listed.push false).setIfInBounds l.length true).size:=by simp;omega
    simp only[Array.getD_eq_getD_getElem?,Array.getElem?_eq_getElem this,Option.getD_some] at h3 h4
    rw[h3] at h4;cases h4
   cases fuel with
   |zero=>exact ⟨hnone,hq2⟩
   |succ n=>exact ⟨fun _=>hq2,fun k hk=>by rw[hnone] at hk;cases hk⟩
 intro fuel
 induction fuel with
 |zero=>
  intro listed ρ w hsz hc ⟨hre,hq⟩
  exact fin 0 listed ρ w hsz (rdy listed hsz hre) hq
 |succ fuel ih=>
  intro listed ρ w hsz hc ⟨h1,h2⟩
  by_cases hre:Region.ready .any l.toArray listed=[]
  ·exact fin (fuel+1) listed ρ w hsz (rdy listed hsz hre) (h1 hre)
  ·have hex:∃i,i<l.length∧fM listed i=false:=by
    obtain ⟨i,hi⟩:=List.exists_mem_of_ne_nil _ hre
    obtain ⟨h3,p,hp,_⟩:=mem_ready.1 hi
    have hil:i<l.length:=by
     have:=(Array.getElem?_eq_some_iff.1 hp).1
     simpa using this
    refine ⟨i,hil,?_⟩
    unfold fM
    have:i<listed.size:=by omega
    simp only[Array.getD_eq_getD_getElem?,Array.getElem?_eq_getElem this,Option.getD_some] at h3 ⊢
    exact h3
   have hsame:∀i,i∈Region.ready .any (l++[o]).toArray (listed.push false)↔i∈Region.ready .any l.toArray listed:=fun i=>by
    constructor
    ·intro hi
     obtain ⟨h3,p,hp,he⟩:=mem_ready.1 hi
     have hp:(l++[o])[i]?=some p:=by simpa using hp
     have hil:=(List.getElem?_eq_some_iff.1 hp).1
     rcases (by omega:i<l.length∨i=l.length) with h|h
     ·refine mem_ready.2 ⟨by rw[←mU (b:=false) (by omega)];exact h3,p,by simpa [List.getElem?_append_left h] using hp,fun e hm hb=>?_⟩
      have hlt:=hE i p (by simpa [List.getElem?_append_left h] using hp) e hm hb
      have:=he e hm hb
      show fM listed e.on=true
      rw[←stP listed false e.on (by omega)];exact this
     ·subst h
      have hpo:p=o:=by simpa using hp.symm
      subst hpo
      obtain ⟨k,hk,hks⟩:=hex
      obtain ⟨e,hm,hb,hon⟩:=hlast k hk
      have:=he e hm hb
      rw[hon] at this
      have h5:=stP listed false k (by omega)
      rw[hks] at h5
      have h6:fM (listed.push false) k=true:=this
      rw[h5] at h6;cases h6
    ·intro hi
     obtain ⟨h3,p,hp,he⟩:=mem_ready.1 hi
     have hp:l[i]?=some p:=by simpa using hp
     have hil:=(List.getElem?_eq_some_iff.1 hp).1
     refine mem_ready.2 ⟨by rw[mU (by omega)];exact h3,p,by simpa [List.getElem?_append_left hil] using hp,fun e hm hb=>?_⟩
     have hlt:=hE i p hp e hm hb
     have:=he e hm hb
     have h5:=stP listed false e.on (by omega)
     show fM (listed.push false) e.on=true
     rw[h5];exact this
   refine ⟨fun hre2=>?_,fun i hir p hp=>?_⟩
   ·exfalso
    obtain ⟨i,hi⟩:=List.exists_mem_of_ne_nil _ hre
    have:=(hsame i).2 hi
    rw[hre2] at this;cases this
   ·have hi:=(hsame i).1 hir
    obtain ⟨h3,p2,hp2,_⟩:=mem_ready.1 hi
    have hp2l:l[i]?=some p2:=by simpa using hp2
    have hil:=(List.getElem?_eq_some_iff.1 hp2l).1
    have hpp:p=p2:=by
     have hp:(l++[o])[i]?=some p:=by simpa using hp
     rw[List.getElem?_append_left hil,hp2l] at hp
     exact (Option.some.inj hp).symm
    subst hpp
    have hst:=h2 i hi p hp2
    have hpm:p∈l:=w0 hp2l
    have hst2:bL P (l++[o]).toArray (fun ρ' w'=>((fun _=>True) w'∧(dZ (fun _=>false) (listed.setIfInBounds i true)∨(fun _=>True) w'))∧bR P l.toArray (fun _=>True) (fun _=>True) (fun _=>false) Q' fuel (listed.setIfInBounds i true) ρ' w') [p] ρ w:=by
     unfold bL at hst ⊢
     rw[u5 (hg p hpm)]
     exact hst
    refine q5 (fun ρ2 w2 hq2=>⟨⟨trivial,.inr trivial⟩,?_⟩) _ _ _ hst2
    have hXi:fM listed i=false:=by
     unfold fM
     have:i<listed.size:=by omega
     simp only[Array.getD_eq_getD_getElem?,Array.getElem?_eq_getElem this,Option.getD_some] at h3 ⊢
     exact h3
    have:=ih (listed.setIfInBounds i true) ρ2 w2 (by simpa using hsz) (by
     have hX:∀a,fM (listed.setIfInBounds i true) a=(fM listed a||Nat.beq a i):=fun a=>om (by omega)
     have:=wH (p:=fun i=>!fM listed i) (q:=fun a=>!fM (listed.setIfInBounds i true) a) (i:=i) (by rw[hXi];rfl) (by rw[hX,show Nat.beq i i=true from Nat.beq_refl i];simp) (fun a ha=>by rw[hX] at ha;simp at ha ⊢;exact ha.1) (List.range l.length) (List.mem_range.2 hil)
     omega) hq2.2
    rwa [show (listed.push false).setIfInBounds i true=(listed.setIfInBounds i true).push false by
     apply Array.ext_getElem?
     intro k
     simp only[Array.getElem?_setIfInBounds,Array.getElem?_push,Array.size_push,Array.size_setIfInBounds]
     (repeat' split)<;>first|rfl|omega|(subst_vars;simp_all;done)|(subst_vars;omega)]
end
section
variable {P:Program} {φ:cN} {ρ:bU} {w:World} {T:TT} {I:aP} {F:List (Nat × Obj)} {E:World} {call:cb}
theorem wI (hT:cW P T) (hC:db P E call) {l:List Oper} {G G':Tr EV} {H H':Hp} {nx nx':Nat} (h:s8 T call l G H nx=some (G',H',nx')) (hg:eF φ (gt G) ρ) (hR:dg I φ H nx F E w) {Q:bU→World→Prop} (hQ:∀ρ' w',gx φ I F E nx G' H' nx' ρ' w'→Q ρ' w') :
  bR P l.toArray (fun _=>True) (fun _=>True) (fun _=>false) Q l.length (Array.replicate l.length false) ρ w:=by
 unfold s8 at h
 cases hst:sY l (iV l []) with
 |true=>rw[hst] at h;exact rZ hT hC h hg hR hQ
 |false=>
  rw[hst] at h
  simp only[cond_false] at h
  split at h
  ·cases h
  ·rename_i o ho
   have hne:l≠[]:=fun e=>by rw[e] at ho;cases ho
   have hl:l=l.dropLast++[o]:=by
    have h0:=List.getLast?_eq_some_getLast hne
    rw[ho] at h0
    rw[Option.some.inj h0]
    exact (List.dropLast_concat_getLast hne).symm
   obtain ⟨m,hm⟩:∃m,l.dropLast=m:=⟨_,rfl⟩
   rw[hm] at h hl
   subst hl
   cases hok:(sY m (iV m [])&&s7 m o) with
   |false=>rw[hok] at h;cases h
   |true=>
    rw[hok] at h
    simp only[cond_true] at h
    rw[w6] at hok
    obtain ⟨hE,_,_⟩:=mT hok.1
    obtain ⟨h1,h2,h3,h4⟩:=u4 hok.2
    split at h
    ·rename_i G1 H1 n1 hd
     split at h
     ·rename_i x H2 n2 hx
      cases h
      have key:=Dn (P:=P) (l:=m) (o:=o) (Q:=Q) (Q':=fun ρ' w'=>gx φ I F E nx G1 H1 n1 ρ' w') h1 h4 hE h3 (fun ρ1 w1 hp=>by
       obtain ⟨J,ψ,a,b,c,d,e,f⟩:=hp
       unfold bL
       rw[show b8 (m++[o]).toArray o ρ1=true by unfold b8;rw[h2],if_pos rfl]
       have htop:=f.top
       refine (yJ hT hC e (f.mono (Nat.le_succ n1)) (htop n1 (Nat.le_refl _)) (Nat.lt_succ_self n1) hx).mono fun v w2 ⟨K,χ,a2,b2,c2,d2,e2,f2⟩=>?_
       exact hQ _ _ ⟨K,χ,a.trans a2,b.trans b2,fun j hj=>(c2 j (by omega) (by omega)).trans (c j hj),by omega,(e.mono b2).setO e2 o.dst,f2⟩) m.length (Array.replicate m.length false) ρ w (by simp) (by have:=List.length_filter_le (fun i=>!fM (Array.replicate m.length false) i) (List.range m.length);simpa using this) (rZ hT hC hd hg hR fun _ _ hp=>hp)
      rw[show (m++[o]).length=m.length+1 by simp,show Array.replicate (m.length+1) false=(Array.replicate m.length false).push false from Array.replicate_succ]
      exact key
     ·cases h
    ·cases h
end
end
section
open Go.Proofs
structure ES where
 G:Tr EV
 H:Hp
 nx:Nat
inductive Ex where
 |nrm
 |ret
 |exit (i:Nat)
def Ex.to:Ex→Exit
 |.nrm=>.normal
 |.ret=>.ret
 |.exit i=>.exit i
noncomputable def s9 (f:ES→Option (Ex × ES)):Nat→ES→Option (Ex × ES)
 |0,_=>none
 |n+1,s=>match f s with
  |some (.nrm,s')=>s9 f n s'
  |r=>r
noncomputable def eR (T:TT) (call:cb) (fuel:Nat):Code→ES→Option (Ex × ES)
 |.skip,s=>some (.nrm,s)
 |.ret,s=>some (.ret,s)
 |.exit i,s=>some (.exit i,s)
 |.seq a b,s=>match eR T call fuel a s with
  |some (.nrm,s')=>eR T call fuel b s'
  |r=>r
 |.cond c a b,s=>match cg (gt s.G) c with
  |some (.b t)=>bif t then eR T call fuel a s else eR T call fuel b s
  |_=>none
 |.block id c,s=>match eR T call fuel c s with
  |some (.exit i,s')=>bif Nat.beq i id then some (.nrm,s') else some (.exit i,s')
  |r=>r
 |.loop c,s=>s9 (eR T call fuel c) fuel s
 |.region _ ops d,s=>match (bif d then s8 T call ops.toList s.G s.H s.nx else uY T call ops.toList ops.toList s.G s.H s.nx) with
  |some (G,H,nx)=>some (.nrm,⟨G,H,nx⟩)
  |none=>none
 |_,_=>none
def eS (n:Nat):Code→Bool
 |.skip | .ret | .exit _=>true
 |.seq a b=>eS n a&&eS n b
 |.cond _ a b=>eS n a&&eS n b
 |.block _ c=>eS n c
 |.loop c=>eS n c
 |.region _ ops _=>eX n ops.toList
 |_=>false
section
variable {P:Program} {T:TT} {call:cb} {F:List (Nat × Obj)} {E:World} {n:Nat}
theorem Do (hm:P.follows .mixedOrders=true) (hT:cW P T) (hC:db P E call) (fuel:Nat):∀(c:Code) (s s':ES) (ex:Ex),eS n c=true→eR T call fuel c s=some (ex,s') →
  ∀(φ:cN) (I:aP) (ρ:bU) (w:World) (Q:Exit→bU→World→Prop),eF φ (gt s.G) ρ→dg I φ s.H s.nx F E w→(∀ρ' w',gx φ I F E s.nx s'.G s'.H s'.nx ρ' w'→Q ex.to ρ' w')→WP P n c Q ρ w:=by
 intro c
 induction c with
 |skip=>intro s s' ex _ h φ I ρ w Q hg hR hQ;cases h;exact WP.skip (hQ _ _ ⟨I,φ,.refl _,.refl _,fun _ _=>rfl,Nat.le_refl _,hg,hR⟩)
 |ret=>intro s s' ex _ h φ I ρ w Q hg hR hQ;cases h;exact WP.ret (hQ _ _ ⟨I,φ,.refl _,.refl _,fun _ _=>rfl,Nat.le_refl _,hg,hR⟩)
 |exit i=>intro s s' ex _ h φ I ρ w Q hg hR hQ;cases h;exact WP.exit (hQ _ _ ⟨I,φ,.refl _,.refl _,fun _ _=>rfl,Nat.le_refl _,hg,hR⟩)
 |seq a b iha ihb=>
  intro s s' ex ho h φ I ρ w Q hg hR hQ
  simp only[eS,w6] at ho
  simp only[eR] at h
  refine WP.seq ?_
  split at h
  ·rename_i s1 h1
   refine iha s s1 .nrm ho.1 h1 φ I ρ w _ hg hR fun ρ' w' ⟨J,ψ,a,b,c,d,e,f⟩=>?_
   exact ihb s1 s' ex ho.2 h ψ J ρ' w' Q e f fun ρ2 w2 hp=>hQ _ _ (gx.up a b c d hp)
  ·rename_i hne
   refine iha s s' ex ho.1 h φ I ρ w _ hg hR fun ρ' w' hp=>?_
   cases ex with
   |nrm=>exact absurd h (hne s')
   |ret=>exact hQ _ _ hp
   |exit i=>exact hQ _ _ hp
 |cond c a b iha ihb=>
  intro s s' ex ho h φ I ρ w Q hg hR hQ
  simp only[eS,w6] at ho
  simp only[eR] at h
  split at h
  ·rename_i t ht
   have hc:ev ρ c=.bool t:=aS hg ht
   refine WP.cond hc ?_
   cases t with
   |true=>rw[if_pos rfl];exact iha s s' ex ho.1 h φ I ρ w Q hg hR hQ
   |false=>rw[if_neg (by decide)];exact ihb s s' ex ho.2 h φ I ρ w Q hg hR hQ
  ·cases h
 |block id c ih=>
  intro s s' ex ho h φ I ρ w Q hg hR hQ
  simp only[eS] at ho
  simp only[eR] at h
  refine WP.block ?_
  split at h
  ·rename_i i s1 h1
   refine ih s s1 (.exit i) ho h1 φ I ρ w _ hg hR fun ρ' w' hp=>?_
   show if i=id then Q .normal ρ' w' else Q (.exit i) ρ' w'
   cases hb:Nat.beq i id with
   |true=>
    rw[hb] at h;cases h
    rw[if_pos (Nat.eq_of_beq_eq_true hb)];exact hQ _ _ hp
   |false=>
    rw[hb] at h;cases h
    rw[if_neg (fun e=>by rw[e,show Nat.beq id id=true from Nat.beq_refl id] at hb;cases hb)];exact hQ _ _ hp
  ·rename_i hne
   refine ih s s' ex ho h φ I ρ w _ hg hR fun ρ' w' hp=>?_
   cases ex with
   |nrm=>exact hQ _ _ hp
   |ret=>exact hQ _ _ hp
   |exit i=>exact absurd h (hne i s')
 |loop c ih=>
  intro s s' ex ho h φ I ρ w Q hg hR hQ
  simp only[eS] at ho
  simp only[eR] at h
  refine WP.loop (γ:=Nat × ES) (fun g ρ' w'=>s9 (eR T call fuel c) g.1 g.2=some (ex,s')∧gx φ I F E s.nx g.2.G g.2.H g.2.nx ρ' w') (fun g=>g.1) (fuel,s) ⟨h,I,φ,.refl _,.refl _,fun _ _=>Z,Nat.le_refl _,hg,hR⟩ ?_
  rintro ⟨k,s1⟩ ρ1 w1 ⟨h1,J,ψ,a,b,c1,d,e,f⟩
  cases k with
  |zero=>cases h1
  |succ k=>
   simp only[s9] at h1
   split at h1
   ·rename_i s2 h2
    refine ih s1 s2 .nrm ho h2 ψ J ρ1 w1 _ e f fun ρ2 w2 hp=>?_
    exact ⟨(k,s2),⟨h1,gx.up a b c1 d hp⟩,Nat.lt_succ_self k⟩
   ·rename_i hne
    refine ih s1 s' ex ho h1 ψ J ρ1 w1 _ e f fun ρ2 w2 hp=>?_
    cases ex with
    |nrm=>exact absurd h1 (hne s')
    |ret=>exact hQ _ _ (gx.up a b c1 d hp)
    |exit i=>exact hQ _ _ (gx.up a b c1 d hp)
 |region id ops dr=>
  intro s s' ex ho h φ I ρ w Q hg hR hQ
  simp only[eS] at ho
  simp only[eR] at h
  have eo:ops=ops.toList.toArray:=by simp
  split at h
  ·rename_i G H nx hr
   cases h
   rw[eo]
   cases dr with
   |false=>
    simp only[cond_false] at hr
    exact WP.region ho (q5 (fun ρ' w' hp=>hQ ρ' w' hp) _ _ _ (pP hT hC _ _ _ _ _ _ _ hr φ I ρ w hg hR))
   |true=>
    simp only[cond_true] at hr
    exact WP.regionDraw (fun _=>True) (fun _=>True) (fun _=>false) hm ho fun w' hw=>by
     subst hw
     exact wI hT hC hr hg hR.drew fun ρ' w' hp=>hQ ρ' w' hp
  ·cases h
 |_=>intro s s' ex ho;cases ho
noncomputable def mh:List EV→Nat→Tr EV→Tr EV
 |[],_,G=>G
 |x::l,i,G=>mh l (i+1) (G.set i (some x))
noncomputable def pW (T:TT) (G:Tr EV) (H:Hp):List ResultVar→Option (List EV)
 |[]=>some []
 |.tmp t::r=>match pW T G H r with
  |some l=>some (gt G t::l)
  |none=>none
 |.cell a t::r=>match gt G a,pW T G H r with
  |.p b off,some l=>match pJ T H t b off with
   |some x=>some (x::l)
   |none=>none
  |_,_=>none
def K4:List EV→EV
 |[x]=>x
 |l=>.tu l
inductive NR where
 |v (x:EV)
 |ss (l:List ByteArray)
abbrev wJ:=Nat→List EV→Option NR
def wK (s:String):Bool:=!(s == "runtime.NumGoroutine")
noncomputable def Dp (P:Program) (T:TT) (C:cb) (fuel:Nat):Nat→cb
 |0=>fun _ _ _ _=>none
 |d+1=>fun f ar H nx=>match C f ar H nx with
  |some r=>some r
  |none=>match P.funcs[f]? with
   |some fn=>match fn.body with
    |some c=>bif Nat.ble ar.length fn.ntmps&&eS fn.ntmps c&&wK fn.name then
      match eR T (Dp P T C fuel d) fuel c ⟨mh ar 0 .lf,H,nx⟩ with
      |some (.exit _,_)=>none
      |some (_,s)=>match pW T s.G s.H fn.results.toList with
       |some l=>some (K4 l,s.H,s.nx)
       |none=>none
      |none=>none
     else none
    |none=>none
   |none=>none
noncomputable def Hi (N:wJ):cb:=fun f ar H nx=>match N f ar with
 |some (.v x)=>some (x,H,nx)
 |some (.ss l)=>bif l.isEmpty then none else some (.sl nx 0 l.length 1 .un,H.set nx (some (.kn (l.map EV.s))),nx+1)
 |none=>none
noncomputable def K5 (C D:cb):cb:=fun f ar H nx=>match C f ar H nx with
 |some r=>some r
 |none=>D f ar H nx
theorem pX {P:Program} {E:World} {C D:cb} (hC:db P E C) (hD:db P E D):db P E (K5 C D):=fun f ar H nx x H' nx' h=>by
 unfold K5 at h
 split at h
 ·rename_i r hr
  cases h
  exact hC _ _ _ _ _ _ _ hr
 ·exact hD _ _ _ _ _ _ _ h
def u6 (P:Program) (E:World) (N:wJ):Prop:=
 (∀f ar x,N f ar=some (.v x)→∃as' r,aZ P E f as' r∧(∀φ vs,RelVs φ ar vs→∀I:G,RepL I as' vs)∧∀(I:G) v,cf I r v→∀φ,aY φ x v) ∧
 ∀f ar l,N f ar=some (.ss l)→∃as',aZ P E f as' (.fro 1 (l.map fun s=>[AV.str s]))∧∀φ vs,RelVs φ ar vs→∀I:G,RepL I as' vs
theorem nh:∀(l:List EV) (i:Nat) (G:Tr EV) (t:Nat),gt (mh l i G) t=if i≤t∧t<i+l.length then (l[t - i]?).getD .u else gt G t
 |[],i,G,t=>by rw[if_neg (by simp<;>omega)];rfl
 |x::l,i,G,t=>by
  unfold mh
  rw[nh l (i+1) (G.set i (some x)) t]
  by_cases h:i+1≤t∧t<i+1+l.length
  ·rw[if_pos h,if_pos (by simp only[List.length_cons];omega),show t - i=(t - (i+1))+1 by omega,List.getElem?_cons_succ]
  ·rw[if_neg h]
   unfold gt
   rw[Tr.get_set]
   by_cases e:t=i
   ·rw[if_pos e,if_pos (by simp only[List.length_cons];omega),e,Nat.sub_self];rfl
   ·rw[if_neg e,if_neg (by simp only[List.length_cons];omega)]
theorem Fk {φ:cN} {ar:List EV} {vs:List Value} (h:RelVs φ ar vs):eF φ (gt (mh ar 0 .lf)) (vg vs.toArray):=by
 intro t
 rw[nh]
 by_cases ht:t<ar.length
 ·rw[if_pos (by omega),Nat.sub_zero,qq ht]
  obtain ⟨v,hv,hr⟩:=h.get (qq ht)
  have:vg vs.toArray t=v:=by unfold vg;simp[hv]
  rw[this];exact hr
 ·rw[if_neg (by omega)]
  unfold gt
  rw[Tr.get_lf];trivial
theorem pY {φ:cN} {I:aP} {H:Hp} {nx:Nat} {w:World} {G:Tr EV} {ρ:bU} (hT:cW P T) (hg:eF φ (gt G) ρ) (hR:dg I φ H nx F E w):∀(rs:List ResultVar) (l:List EV),pW T G H rs=some l →
  ∃vs,RelVs φ l vs∧(rs.mapM (m:=Sem) fun x=>match x with
   |.tmp t=>Pure.pure (ρ t)
   |.cell a t=>do loadVar t (←asAddr (ρ a))).run P w=.ok vs w
 |[],l,h=>by cases h;exact ⟨[],rfl,rfl⟩
 |.tmp t::r,l,h=>by
  unfold pW at h
  split at h
  ·rename_i l' hl
   cases h
   obtain ⟨vs,h1,h2⟩:=pY hT hg hR r l' hl
   refine ⟨ρ t::vs,⟨_,_,Z,hg t,h1⟩,?_⟩
   rw[List.mapM_cons]
   simp only[Sem.run_bind,Sem.run_pure,Result.andThen_ok,h2]
  ·cases h
 |.cell a t::r,l,h=>by
  unfold pW at h
  split at h
  ·rename_i b off l' hp hl
   split at h
   ·rename_i x hx
    cases h
    obtain ⟨vs,h1,h2⟩:=pY hT hg hR r l' hl
    have ha:=hg a
    rw[hp] at ha
    obtain ⟨v,h3,h4⟩:=rU hT hR hx ha
    obtain ⟨q,hq,he⟩:=ha
    refine ⟨v::vs,⟨_,_,Z,h4,h1⟩,?_⟩
    have h5:(loadVar t ⟨q.r,q.sh+off,none⟩).run P w=.ok v w:=by
     rw[he] at h3
     simpa [Instr.loadAt,Instr.sureAddr] using h3
    have h6:(asAddr (ρ a)).run P w=.ok ⟨q.r,q.sh+off,none⟩ w:=by rw[he];rfl
    rw[List.mapM_cons]
    simp only[Sem.run_bind,h6,Sem.run_pure,Result.andThen_ok,h5,h2]
   ·cases h
  ·cases h
theorem Hj {N:wJ} (hN:u6 P E N) {f:Nat} {ar:List EV} {x:EV} (h:N f ar=some (.v x)) {φ:cN} {I:aP} {H:Hp} {nx:Nat} {w:World} {vs:List Value} (hR:dg I φ H nx F E w) (hr:RelVs φ ar vs):Fn P f vs.toArray w (d6 φ I F E nx nx x H nx):=by
 obtain ⟨as',r,hA,h1,h2⟩:=hN.1 f ar x h
 obtain ⟨M,L,hn,hm,hrep,hS⟩:=hR.ex
 refine (hA ⟨I,fun _=>none⟩ (L++F) w vs (h1 φ vs hr _) ⟨⟨0,fun _ _=>Z⟩,[],Z,hS⟩).mono fun v w' ⟨J,y,O',hJ,hy,⟨_,L',hL',hS'⟩,he⟩=>?_
 subst he
 exact ⟨J.k,φ,hJ.1,.refl _,fun _ _ _=>rfl,Nat.le_refl _,h2 J v hy φ,hR.top,M,L,hn,hm,hrep.mono hJ.1 (.refl _),hS'.dropAll⟩
theorem Fl {N:wJ} (hN:u6 P E N) {f:Nat} {ar:List EV} {l:List ByteArray} (h:N f ar=some (.ss l)) (hl:l.isEmpty=false) {φ:cN} {I:aP} {H:Hp} {nx:Nat} {w:World} {vs:List Value} (hR:dg I φ H nx F E w) (hr:RelVs φ ar vs) :
  Fn P f vs.toArray w (d6 φ I F E nx nx (.sl nx 0 l.length 1 .un) (H.set nx (some (.kn (l.map EV.s)))) (nx+1)):=by
 obtain ⟨as',hA,h1⟩:=hN.2 f ar l h
 obtain ⟨L,hrest,hS⟩:=(hR.mono (Nat.le_succ nx)).freshN (hR.top nx (Nat.le_refl _))
 refine (hA ⟨I,fun _=>none⟩ (L++F) w vs (h1 φ vs hr _) ⟨⟨0,fun _ _=>Z⟩,[],Z,hS⟩).mono fun v w' ⟨J,y,O',hJ,hy,⟨_,L',hL',hS'⟩,he⟩=>?_
 subst he
 obtain ⟨a,n,cap,rfl,hn,hcap,_,hrr⟩:=hy
 rw[qx] at hn
 subst hn
 obtain ⟨s0,l0,rfl⟩:∃s0 l0,l=s0::l0:=by
  cases l with
  |nil=>cases hl
  |cons s0 l0=>exact ⟨s0,l0,rfl⟩
 obtain ⟨b,off,_,rfl,_⟩:=hrr.get (j:=0) (r:=[AV.str s0]) rfl
 have hk:φ nx=none:=hR.top nx (Nat.le_refl _)
 have hat:∀(j:Nat) s,(s0::l0)[j]?=some s→B3 J.k b (off+j) (.string s):=fun j s hj=>by
  obtain ⟨b2,off2,us,e,_,⟨u,us2,rfl,h3,h4⟩,h5⟩:=hrr.get (j:=j) (r:=[AV.str s]) (by rw[qy,hj];rfl)
  cases e
  have h3:u=.string s:=h3
  subst h3
  have:=h5 0 _ rfl
  simpa using this
 refine ⟨J.k,φ.put nx ⟨b,off,0⟩,hJ.1,qk hk _,fun j hj _=>lB φ _ (by omega),Nat.le_succ nx,⟨_,off,cap,q6 _ _ _,rfl,hcap,fun _=>rfl,trivial⟩,
  qi (A:=[]) (hrest.mono hJ.1 (qk hk _)) ⟨⟨b,off,0⟩,(s0::l0).map Value.string,q6 _ _ _,?_,fun u hu=>?_,fun j u hj=>?_,rfl⟩ hS'.dropAll (mc (nx:=nx+1) (fun j hj=>hR.top j (by omega)) (Nat.lt_succ_self nx) _)⟩
 ·clear hat hrr hl h hS' hS hrest hr
  generalize s0::l0=m
  induction m with
  |nil=>rfl
  |cons x m ih=>exact ⟨_,_,rfl,rfl,ih⟩
 ·obtain ⟨s,_,rfl⟩:=List.mem_map.1 hu;rfl
 ·rw[qy] at hj
  obtain ⟨s,hs,rfl⟩:=Option.map_eq_some_iff.1 hj
  exact hat j s hs
theorem ta {N:wJ} (hN:u6 P E N):db P E (Hi N):=fun f ar H nx x H' nx' h φ I F w vs hR hr=>by
 unfold Hi at h
 split at h
 ·rename_i y hy
  cases h
  exact Hj hN hy hR hr
 ·rename_i l hy
  cases hl:l.isEmpty with
  |true=>rw[hl] at h;cases h
  |false=>
   rw[hl] at h;cases h
   exact Fl hN hy hl hR hr
 ·cases h
theorem oo (hm:P.follows .mixedOrders=true) (hT:cW P T) {C:cb} (hC:db P E C) (fuel:Nat):∀d,db P E (Dp P T C fuel d)
 |0=>fun f ar H nx x H' nx' h=>by cases h
 |d+1=>fun f ar H nx x H' nx' h φ I F w vs hR hr=>by
  unfold Dp at h
  split at h
  ·rename_i r hy
   cases h
   exact hC _ _ _ _ _ _ _ hy φ I F w vs hR hr
  ·split at h
   ·rename_i fn h1
    split at h
    ·rename_i cd h2
     cases hb:(Nat.ble ar.length fn.ntmps&&eS fn.ntmps cd&&wK fn.name) with
     |false=>rw[hb] at h;cases h
     |true=>
      rw[hb] at h
      simp only[cond_true] at h
      simp only[w6] at hb
      have h3:fn.name≠"runtime.NumGoroutine" := fun e=>by
       have:=hb.2
       unfold wK at this
       rw[e] at this
       simp at this
      refine Fn.intro h1 h2 h3 (by rw[List.size_toArray,hr.length];exact hb.1.1) ?_
      have fin:∀(s:ES),(match pW T s.G s.H fn.results.toList with
        |some l=>some (K4 l,s.H,s.nx)
        |none=>none)=some (x,H',nx')→∀ρ' w',gx φ I F E nx s.G s.H s.nx ρ' w'→∃v,nj fn.results ρ' P w'=.ok v w'∧d6 φ I F E nx nx x H' nx' v w':=fun s hs ρ' w' ⟨J,ψ,a,b,c,d',e',f'⟩=>by
       split at hs
       ·rename_i l hl
        cases hs
        obtain ⟨us,g1,g2⟩:=pY hT e' f' fn.results.toList l hl
        have g3:(fn.results.mapM (m:=Sem) fun x=>match x with
          |.tmp t=>Pure.pure (ρ' t)
          |.cell a t=>do loadVar t (←asAddr (ρ' a))).run P w'=.ok us.toArray w':=by
         rw[Array.mapM_eq_mapM_toList,Sem.run_map]
         rw[g2];rfl
        refine ⟨if h:us.toArray.size=1 then us.toArray[0] else Value.tuple us.toArray,?_,J,ψ,a,b,fun j hj _=>c j hj,d',?_,f'⟩
        ·unfold nj
         rw[Sem.run_bind]
         exact (congrArg (fun r=>Result.andThen r _) g3).trans rfl
        ·cases us with
         |nil=>
          have:l=[]:=by have:=g1.length;simpa using this.symm
          subst this
          exact ⟨[],rfl,rfl⟩
         |cons u us=>
          cases us with
          |nil=>
           obtain ⟨y,rfl⟩:∃y,l=[y]:=by
            have:=g1.length
            match l,this with
            |[y],_=>exact ⟨y,rfl⟩
           exact g1.r1
          |cons u2 us=>
           have hl2:=g1.length
           match l,hl2,g1 with
           |x1::x2::l',_,g1=>exact ⟨u::u2::us,by simp,g1⟩
       ·cases hs
      split at h
      ·cases h
      ·rename_i ex s hne hc
       refine Do hm hT (oo hm hT hC fuel d) fuel cd _ s ex hb.1.2 hc φ I _ w _ (Fk hr) hR fun ρ' w' hp=>?_
       have:=fin s h ρ' w' hp
       cases ex with
       |nrm=>exact this
       |ret=>exact this
       |exit i=>exact (hne i rfl).elim
      ·cases h
    ·cases h
   ·cases h
def Hk:TypeDesc→Bool
 |.struct fs=>fs.toList.all fun f=>!(f.name == "_")
 |_=>true
def IA:TypeDesc→Bool
 |.pointer _=>false
 |_=>true
def JC (d:TypeDesc) (ms:Array Method) (nm:String):Option Nat:=
 match ms.find? (·.name == nm) with
 |some m=>match m.func with
  |some (f,false)=>bif m.path.isEmpty&&IA d then some f else none
  |_=>none
 |none=>none
def JD (ms:Array Method) (want:Array (String × TypeId)):Bool:=want.toList.all fun n=>ms.any fun m=>m.name == n.1&&m.sig == n.2
theorem Hl (ms:Array Method) (want:Array (String × TypeId)):(Instr.missingMethod want ms).isNone=JD ms want:=by
 unfold Instr.missingMethod JD
 dsimp only
 cases hm:(want.toList.filter fun n=>!ms.any fun m=>m.name == n.1&&m.sig == n.2) with
 |nil=>
  have h:(want.toList.all fun n=>ms.any fun m=>m.name == n.1&&m.sig == n.2)=true:=by
   rw[w7]
   intro x hx
   have:=List.filter_eq_nil_iff.1 hm x hx
   simpa using this
  rw[h]
  rfl
 |cons x l=>
  have h:(want.toList.all fun n=>ms.any fun m=>m.name == n.1&&m.sig == n.2)=false:=by
   have hx:x∈want.toList.filter fun n=>!ms.any fun m=>m.name == n.1&&m.sig == n.2:=by rw[hm];exact .head _
   rw[List.mem_filter] at hx
   rw[List.all_eq_false]
   exact ⟨x,hx.1,by simpa using hx.2⟩
  rw[h]
  have hl:∀(l:List String),l≠[]→∃s,Instr.least l=some s:=fun l hl=>by
   cases l with
   |nil=>exact (hl rfl).elim
   |cons a l=>exact ⟨_,rfl⟩
  simp only[List.partition_eq_filter_filter]
  cases hc:x.1.contains '.' with
  |true=>
   obtain ⟨s,hs⟩:=hl ((List.filter (fun s:String=>s.contains '.') ((x::l).map (·.1))).map fun id=>(id.splitOn ".").getLastD id) (by
    intro q
    have q:=List.map_eq_nil_iff.1 q
    have:=List.filter_eq_nil_iff.1 q x.1 (by simp)
    exact this hc)
   rw[hs]
   cases Instr.least (List.filter (not∘fun s:String=>s.contains '.') ((x::l).map (·.1)))<;>rfl
  |false=>
   obtain ⟨s,hs⟩:=hl (List.filter (not∘fun s:String=>s.contains '.') ((x::l).map (·.1))) (by
    intro q
    have:=List.filter_eq_nil_iff.1 q x.1 (by simp)
    exact this (by simp only[Function.comp,hc];rfl))
   rw[hs]
   rfl
def Fm (P:Program) (t:Nat):Option TI:=
 match P.underlying t,P.info? t with
 |some d,some f=>match f.zero with
  |some zv=>match p7 (Da 5) zv.cells.toList,Da 6 zv with
   |some z,some v=>bif z.all EV.cell&&Nat.beq z.length f.size then some ⟨d,f.size,f.bytes,z,v,!(P.eqGuardType P.depth t),!(P.stoodInHeld t)&&Hk d,JC d f.methods,JD f.methods⟩ else none
   |_,_=>none
  |none=>none
 |_,_=>none
theorem tc:cW P (Fm P):=fun t i h=>by
 unfold Fm at h
 split at h
 ·rename_i d f hd hf
  split at h
  ·rename_i zv hz
   split at h
   ·rename_i z v h1 h2
    cases hb:(z.all EV.cell&&Nat.beq z.length f.size) with
    |false=>rw[hb] at h;cases h
    |true=>
     rw[hb] at h;cases h
     simp only[w6] at hb
     refine ⟨hd,⟨f,zv,hf,rfl,rfl,hz,fun φ=>by simpa using kM (φ:=φ) (g:=id) (og 5) zv.cells.toList z h1,fun φ=>og 6 zv v h2⟩,hb.1,Nat.eq_of_beq_eq_true hb.2,(fun h=>by simpa using h),fun h=>by
      simp only[w6] at h
      refine ⟨by simpa using h.1,fun fs e f hf=>?_⟩
      have h2:=h.2
      dsimp only at e
      subst e
      have h3:=List.all_eq_true.1 h2 f hf
      simpa using h3,fun nm g hg k x w=>?_,⟨f,hf,fun want=>Hl _ _⟩⟩
     have hg:JC d f.methods nm=some g:=hg
     unfold JC at hg
     split at hg
     ·rename_i m hm
      split at hg
      ·rename_i g' hfn
       cases hbb:(m.path.isEmpty&&IA d) with
       |false=>rw[hbb] at hg;cases hg
       |true=>
        rw[hbb] at hg;cases hg
        simp only[w6] at hbb
        have hp:m.path.toList=[]:=by have:=hbb.1;simpa using this
        have hu:∀w,(underlying t).run P w=.ok d w:=fun w=>run_underlying hd w
        have hpr:∀w,(program:Sem Program).run P w=.ok P w:=fun _=>rfl
        have hti:∀w,(typeInfo t).run P w=.ok f w:=fun w=>by
         simp only[typeInfo,Sem.run_bind,hpr,Result.andThen_ok,hf]
         rfl
        have h2:=hbb.2
        simp only[method,Sem.run_bind,hti,Result.andThen_ok,hm,hp,follow,Sem.run_pure,hfn,receiverAt,hu]
        cases d<;>first|(cases h2;done)|rfl
      ·cases hg
     ·cases hg
   ·cases h
  ·cases h
 ·cases h
theorem u7 (hm:P.follows .mixedOrders=true) {C:cb} (hC:db P E C) {fuel d f:Nat} (h:(match Dp P (Fm P) C fuel d f [] .lf 0 with
  |some (.b true,_,_)=>true
  |_=>false)=true):aZ P E f [] (.bool true):=fun I F w vs h1 h2=>by
 split at h
 ·rename_i H' nx' hx
  have h1:vs=[]:=h1
  subst h1
  obtain ⟨ht,L,hL,hS⟩:=h2
  have hL:L=[]:=hL
  subst hL
  have hR:dg I.k (fun _=>none) .lf 0 F E w:=⟨fun _ _=>rfl,[],[],List.nodup_nil,fun j o=>by simp[Tr.get_lf],rfl,hS⟩
  refine (oo hm tc hC fuel d f [] .lf 0 _ _ _ hx _ I.k F w [] hR Z).mono fun v w' ⟨J,ψ,a,b,c,d',e',f'⟩=>?_
  exact ⟨⟨J,I.h⟩,.bool true,[],⟨a,fun _ _ h=>h⟩,e',⟨ht,[],rfl,f'.sl⟩,rfl⟩
 ·cases h
end
end
section
open Go.Proofs Go.Lib Go.Shelf
theorem Fo {P:Program} {w:World} {g:Nat} {t u:TypeId} {zero:Array Value} {k:IntKind} {ts:List TypeId} {i:Nat}
  (h:w.ShapedOpen P) (hg:g<P.globals.size)
  (h0:((begin P (fun _ _=>0) default).world.heap[g]?).bind Obj.row?=some (zero,t))
  (hb:P.buildable t=true) (hc:P.cellTypes P.depth t=some ts) (hi:i<zero.size) (ht:ts[i % ts.length]?=some u) (hu:P.underlying u=some (.int k)) :
  ∃m,w.cell? ⟨g,i,none⟩=some (.int k m):=by
 obtain ⟨cs,hh,hs,hr⟩:=h.1 g zero t hg h0
 obtain ⟨ts',hts,_,hall⟩:=hr hb
 rw[hc] at hts
 cases hts
 have h1:i<cs.size:=by omega
 obtain ⟨u',hu',hok⟩:=hall i cs[i] (by simp[h1])
 have:u'=u:=by rw[ht] at hu';exact (Option.some.inj hu').symm
 subst this
 have hcell:w.cell? ⟨g,i,none⟩=some cs[i]:=by simp[World.cell?,hh,h1]
 rw[hcell]
 unfold Cell.ok at hok
 rw[hu] at hok
 cases hv:cs[i]<;>rw[hv] at hok<;>simp at hok
 case int k' n=>exact ⟨n,by rw[hok.1]⟩
theorem three:∀u:Nat,u<512→100≤u→Lib.l10 (Lib.bitLen u)=2∧Lib.bitLen u≤64:=by decide +kernel
set_option maxHeartbeats 2000000 in
set_option maxRecDepth 100000 in
theorem Hn {P:Program} {ρ:Ren} (L:LaysM.n284 P ρ) (u:Nat) (h1:100≤u) (h2:u<512) (w:World) (m:Int)
  (hcell:w.cell? ⟨(ρ.g 17),2,none⟩=some (.int .u64 m)) :
  Calls P (ρ.f 284) #[.int .u64 u] w fun e w'=>e=.returned (.int .i64 (2+if m≤(u:Int) then 1 else 0))∧w'=w:=by
 have mixed:=L.mixed
 have t53:=L.t53;have a53:=L.a53;have z53:=L.z53;have v53:=L.v53
 have t3:=L.t3;have a3:=L.a3;have z3:=L.z3;have v3:=L.v3
 have t212:=L.t212;have a212:=L.a212;have z212:=L.z212;have v212:=L.v212
 have t0:=L.t0;have a0:=L.a0;have z0:=L.z0;have v0:=L.v0
 have t4:=L.t4;have a4:=L.a4;have z4:=L.z4;have v4:=L.v4
 have e129:∀args w,(callFunc (ρ.f 129) args).run P w=.ok (.enter (ρ.f 129) args) w:=enters_of L.f129 (by kernel_rfl) rfl
 have e317:∀args w,(callFunc (ρ.f 317) args).run P w=.ok (.enter (ρ.f 317) args) w:=enters_of L.f317 (by kernel_rfl) rfl
 have e318:∀args w,(callFunc (ρ.f 318) args).run P w=.ok (.enter (ρ.f 318) args) w:=enters_of L.f318 (by kernel_rfl) rfl
 have hg:=L.m17
 obtain ⟨hq,hL⟩:=three u h2 h1
 have hto:((u:Int)).toNat=u:=by omega
 generalize hq':Lib.l10 (Lib.bitLen u)=q at hq
 subst hq
 have h20:(2:Nat)<20:=by omega
 go_enter L.f284,Body.n284_ntmps ρ
 go_wp2_with (first
  |(go_at_fn (ρ.f 129);refine (Any.bits_Len64 { L with } _ _ (by omega) (by omega)).mono ?_;rintro e w' ⟨rfl,rfl⟩)
  |(go_at_fn (ρ.f 317);refine (Any.internal_strconv_log10Pow2 { L with } _ (by first|exact hL|(rw[hto];exact hL)) _).mono ?_;rintro e w' ⟨rfl,rfl⟩)
  |(go_at_fn (ρ.f 318);refine (Any.internal_strconv_bool2_int { L with } _ _).mono ?_;rintro e w' ⟨rfl,rfl⟩))
 all_goals go_ret
 all_goals (
  refine ⟨?_,Z⟩
  first
   |rfl
   |(congr 2;split<;>simp_all<;>omega)
   |(congr 2;simp_all<;>omega))
end
section
open Go.Proofs
mutual
def EV.ren (ρ:Nat→Nat):EV→EV
 |.u=>.u
 |.b x=>.b x
 |.i kd n=>.i kd n
 |.s x=>.s x
 |.np=>.np
 |.p kb off=>.p (ρ kb) off
 |.ns=>.ns
 |.sl kb off len sz c=>.sl (ρ kb) off len sz c
 |.ag l=>.ag (EV.renL ρ l)
 |.tu l=>.tu (EV.renL ρ l)
 |.fn fi a1 c1=>.fn fi (EV.renL ρ a1) (EV.renL ρ c1)
 |.nf=>.nf
 |.ifc ty v=>.ifc ty (EV.ren ρ v)
 |.ni=>.ni
 |.m kb=>.m (ρ kb)
 |.nm=>.nm
 |.vr kb=>.vr (ρ kb)
 |.us lo hi c=>.us lo hi c
def EV.renL (ρ:Nat→Nat):List EV→List EV
 |[]=>[]
 |x::l=>EV.ren ρ x::EV.renL ρ l
end
mutual
def EV.okN (pr:Nat→Bool):EV→Bool
 |.p kb _=>pr kb
 |.sl kb _ _ _ _=>pr kb
 |.ag l=>EV.okNL pr l
 |.tu l=>EV.okNL pr l
 |.fn _ a1 c1=>EV.okNL pr a1&&EV.okNL pr c1
 |.ifc _ v=>EV.okN pr v
 |.m kb=>pr kb
 |.u=>true
 |.b _=>true
 |.i _ _=>true
 |.s _=>true
 |.np=>true
 |.ns=>true
 |.nf=>true
 |.ni=>true
 |.nm=>true
 |.vr kb=>pr kb
 |.us _ _ _=>true
def EV.okNL (pr:Nat→Bool):List EV→Bool
 |[]=>true
 |x::l=>EV.okN pr x&&EV.okNL pr l
end
section
variable {φ ψ:cN} {ρ:Nat→Nat} {p:Nat→Bool}
mutual
theorem aY.ren (h:∀b q,p b=true→ψ b=some q→φ (ρ b)=some q):∀(x:EV) (v:Value),x.okN p=true→aY ψ x v→aY φ (x.ren ρ) v
 |.u,_,_,_=>trivial
 |.b _,_,_,e=>e
 |.i _ _,_,_,e=>e
 |.s _,_,_,e=>e
 |.np,_,_,e=>e
 |.p _ _,_,k,⟨q,a,e⟩=>⟨q,h _ _ k a,e⟩
 |.ns,_,_,e=>e
 |.sl _ _ _ _ _,_,k,⟨q,o,cap,a,e⟩=>⟨q,o,cap,h _ _ k a,e⟩
 |.ag l,_,k,⟨vs,e,k1⟩=>⟨vs,e,RelVs.ren h l vs k k1⟩
 |.tu l,_,k,⟨vs,e,k1⟩=>⟨vs,e,RelVs.ren h l vs k k1⟩
 |.fn _ a c,_,k,⟨vs,us,e,k1,k2⟩=>⟨vs,us,e,RelVs.ren h a vs ((w6 _ _).mp k).1 k1,RelVs.ren h c us ((w6 _ _).mp k).2 k2⟩
 |.nf,_,_,e=>e
 |.ifc _ x,_,k,⟨u,e,k1⟩=>⟨u,e,aY.ren h x u k k1⟩
 |.ni,_,_,e=>e
 |.m _,_,k,⟨q,a,e⟩=>⟨q,h _ _ k a,e⟩
 |.nm,_,_,e=>e
 |.vr _,_,k,⟨q,a,e⟩=>⟨q,h _ _ k a,e⟩
 |.us _ _ _,_,_,e=>e
theorem RelVs.ren (h:∀b q,p b=true→ψ b=some q→φ (ρ b)=some q):∀(x:List EV) (v:List Value),EV.okNL p x=true→RelVs ψ x v→RelVs φ (EV.renL ρ x) v
 |[],_,_,e=>e
 |x::xs,_,k,⟨v,us,e,h1,h2⟩=>⟨v,us,e,aY.ren h x v ((w6 _ _).mp k).1 h1,RelVs.ren h xs us ((w6 _ _).mp k).2 h2⟩
end
end
section
variable {I J:aP} {φ ψ:cN} {H:Hp} {nx:Nat} {F:List (Nat × Obj)} {E w:World} {k:Nat}
theorem dg.frz1 (h:dg I φ H nx F E w) {cs:List EV} (hk:(H.get k).bind VO.cs?=some cs):∃J,I.le J∧gn J φ k (.kn cs) []∧dg J φ (H.set k (some (.kn cs))) nx F E w:=by
 obtain ⟨o,ho,hc⟩:=Option.bind_eq_some_iff.1 hk
 obtain ⟨A,L,hb,hr,hS⟩:=h.pick ho
 cases o with
 |cells ex cs'=>
  cases hc
  obtain ⟨q,T,vs,junk,h1,h2,h3,h4,h5,h6,rfl⟩:=hb
  obtain ⟨J,j1,j2,j3⟩:=SL.freezeAllN hS
  have hj:=j3 (q.r,.cells (vs++junk).toArray T (0,0)) (.head _)
  have hB:gn J φ k (.kn cs) []:=⟨q,vs,h1,h3,fun u hu=>h4 u (List.mem_append_left _ hu),fun j u hu=>⟨_,T,(0,0),hj,by
   have hl:=(List.getElem?_eq_some_iff.1 hu).1
   rw[h2,Nat.zero_add,List.getElem?_toArray,List.getElem?_append_left hl];exact hu⟩,rfl⟩
  exact ⟨J,j1,hB,qi (A:=[]) (hr.mono j1 (.refl _)) hB j2 h.top⟩
 |kn cs'=>
  cases hc
  have hb':=hb
  obtain ⟨q,vs,h1,h3,h4,h5,rfl⟩:=hb
  exact ⟨I,.refl _,⟨q,vs,h1,h3,h4,h5,rfl⟩,qi (A:=[]) hr ⟨q,vs,h1,h3,h4,h5,rfl⟩ hS h.top⟩
 |it s p=>cases hc
 |mp es=>cases hc
noncomputable def nG:List (Nat × List EV)→Hp→Hp
 |[],H=>H
 |q::l,H=>nG l (H.set q.1 (some (.kn q.2)))
theorem dg.frzL:∀(l:List (Nat × List EV)) {I:aP} {H:Hp},dg I φ H nx F E w→(∀q∈l,(H.get q.1).bind VO.cs?=some q.2)→∃J,I.le J∧(∀q∈l,gn J φ q.1 (.kn q.2) [])∧dg J φ (nG l H) nx F E w
 |[],I,H,h,_=>⟨I,.refl _,(fun _ hq=>nomatch hq),h⟩
 |q::l,I,H,h,hk=>by
  obtain ⟨J,j1,j2,j3⟩:=h.frz1 (hk q (.head _))
  obtain ⟨K,k1,k2,k3⟩:=dg.frzL l j3 fun r hr=>by
   rw[Tr.get_set]
   by_cases e:r.1=q.1
   ·rw[if_pos e]
    have h1:=hk q (.head _)
    have h2:=hk r (.tail _ hr)
    rw[e,h1] at h2
    exact h2
   ·rw[if_neg e];exact hk r (.tail _ hr)
  refine ⟨K,j1.trans k1,fun r hr=>?_,k3⟩
  rcases List.mem_cons.1 hr with rfl|hr
  ·exact gn.mono k1 (.refl _) j2
  ·exact k2 r hr
theorem dg.addK (h:dg I φ H nx F E w) {cs:List EV} (hk:H.get k=none) (hb:gn I φ k (.kn cs) []):dg I φ (H.set k (some (.kn cs))) nx F E w:=by
 obtain ⟨ht,M,L,hn,hm,hr,hS⟩:=h
 refine ⟨ht,(k,.kn cs)::M,L,?_,fun j o=>?_,⟨[],L,Z,hb,hr⟩,hS⟩
 ·rw[List.map_cons,List.nodup_cons]
  refine ⟨fun hm2=>?_,hn⟩
  obtain ⟨x,hx,e⟩:=List.mem_map.1 hm2
  have e:x.1=k:=e
  have:=(hm x.1 x.2).1 hx
  rw[e,hk] at this;cases this
 ·rw[Tr.get_set,List.mem_cons,hm j o]
  by_cases e:j=k
  ·rw[if_pos e];subst e;rw[hk];simp[eq_comm]
  ·rw[if_neg e];simp[e]
end
structure aV where
 f:Nat
 ar:List EV
 hin:List (Nat × List EV)
 x:EV
 hout:List (Nat × List EV)
 base:Nat
noncomputable def J2 (l:List (Nat × List EV)):Hp:=nG l .lf
def aF (P:Program) (E:World) (m:aV):Prop:=∀φ I F w vs,(∀q∈m.hin,gn I φ q.1 (.kn q.2) [])→RelVs φ m.ar vs→SL I F E w→(∀j,m.base≤j→φ j=none) →
 Go.Proofs.YtjpnhkmfhlnpcaaGreatDoor.Fn P m.f vs.toArray w (fun v w'=>∃J ψ,I.le J∧(∀j,j<m.base→ψ j=φ j)∧aY ψ m.x v∧(∀q∈m.hout,gn J ψ q.1 (.kn q.2) [])∧SL J F E w')
noncomputable def yO (x y:List EV):Bool:=gz.eqL 2000 x y
noncomputable def Fp (H:Hp) (q:Nat × List EV):Bool:=match (H.get q.1).bind VO.cs? with
 |some cs=>yO cs q.2
 |none=>false
theorem yP {H:Hp} {q:Nat × List EV} (h:Fp H q=true):(H.get q.1).bind VO.cs?=some q.2:=by
 unfold Fp at h
 split at h
 ·rename_i cs hc
  rw[hc,(pU 2000).2 cs q.2 h]
 ·cases h
theorem td:∀(l:List (Nat × List EV)) (H:Hp) (j:Nat) (o:VO),(l.map (·.1)).Nodup→(∀q∈l,H.get q.1=none)→((nG l H).get j=some o↔(∃cs,(j,cs)∈l∧o=.kn cs)∨H.get j=some o)
 |[],H,j,o,_,_=>by simp[nG]
 |q::l,H,j,o,hn,hh=>by
  rw[List.map_cons,List.nodup_cons] at hn
  have hq:=hh q (.head _)
  have ih:=td l (H.set q.1 (some (.kn q.2))) j o hn.2 fun r hr=>by
   have hne:¬r.1=q.1:=fun e=>hn.1 (List.mem_map.2 ⟨r,hr,e⟩)
   rw[Tr.get_set,if_neg hne]
   exact hh r (.tail _ hr)
  show (nG l (H.set q.1 (some (.kn q.2)))).get j=some o↔_
  rw[ih,Tr.get_set]
  by_cases e:j=q.1
  ·rw[if_pos e]
   constructor
   ·rintro (⟨cs,h1,h2⟩|h)
    ·exact .inl ⟨cs,.tail _ h1,h2⟩
    ·cases h;exact .inl ⟨q.2,by rw[e];exact .head _,rfl⟩
   ·rintro (⟨cs,h1,h2⟩|h)
    ·rcases List.mem_cons.1 h1 with h3|h3
     ·exact .inr (by rw[h2,←h3])
     ·exact .inl ⟨cs,h3,h2⟩
    ·rw[e,hq] at h;cases h
  ·rw[if_neg e]
   constructor
   ·rintro (⟨cs,h1,h2⟩|h)
    ·exact .inl ⟨cs,.tail _ h1,h2⟩
    ·exact .inr h
   ·rintro (⟨cs,h1,h2⟩|h)
    ·rcases List.mem_cons.1 h1 with h3|h3
     ·exact absurd (by rw[←h3]) e
     ·exact .inl ⟨cs,h3,h2⟩
    ·exact .inr h
def wM:List Nat→Bool
 |[]=>true
 |x::l=>!nF x l&&wM l
theorem oq:∀{l:List Nat},wM l=true→l.Nodup
 |[],_=>List.nodup_nil
 |x::l,h=>by
  unfold wM at h
  simp only[w6,Bool.not_eq_true',Bool.eq_false_iff] at h
  rw[List.nodup_cons]
  exact ⟨fun hm=>h.1 (gy.2 hm),oq h.2⟩
noncomputable def K6 (call:cb) (m:aV):Bool:=
 wM (m.hin.map (·.1))&&match call m.f m.ar (J2 m.hin) m.base with
  |some (x,H',_)=>yO [x] [m.x]&&m.hout.all (Fp H')
  |none=>false
section
variable {P:Program} {E:World}
theorem aH {call:cb} (hC:db P E call) {m:aV} (h:K6 call m=true):aF P E m:=fun φ I F w vs hin hr hS ht=>by
 unfold K6 at h
 rw[w6] at h
 obtain ⟨h1,h⟩:=h
 split at h
 ·rename_i x H' nx' hc
  rw[w6,w7] at h
  have hx:x=m.x:=by have:=(pU 2000).2 _ _ h.1;simpa using this
  subst hx
  have hnd:=oq h1
  have hR:dg I φ (J2 m.hin) m.base F E w:=by
   refine ⟨ht,m.hin.map fun q=>(q.1,.kn q.2),[],?_,fun j o=>?_,?_,hS⟩
   ·rw[List.map_map];exact hnd
   ·rw[show J2 m.hin=nG m.hin .lf from rfl,td m.hin .lf j o hnd fun _ _=>Tr.get_lf _,Tr.get_lf,List.mem_map]
    constructor
    ·rintro ⟨q,hq,e⟩
     cases e
     exact .inl ⟨q.2,hq,rfl⟩
    ·rintro (⟨cs,h1,rfl⟩|h)
     ·exact ⟨(j,cs),h1,rfl⟩
     ·cases h
   ·generalize m.hin=l at hin
    clear h1 hnd hc h hr
    induction l with
    |nil=>rfl
    |cons q l ih=>exact ⟨[],[],rfl,hin q (.head _),ih fun r hr=>hin r (.tail _ hr)⟩
  refine (hC _ _ _ _ _ _ _ hc φ I F w vs hR hr).mono fun v w' ⟨J,ψ,a,b,c,d,e,f⟩=>?_
  obtain ⟨K,k1,k2,k3⟩:=dg.frzL m.hout f fun q hq=>yP (h.2 q hq)
  exact ⟨K,ψ,a.trans k1,fun j hj=>c j hj (Nat.ne_of_lt hj),e,k2,k3.sl⟩
 ·cases h
end
def wN (k:Nat):List (Nat × List EV)→Nat→Nat
 |[],i=>i
 |q::l,i=>bif Nat.beq q.1 k then i else wN k l (i+1)
def Dq (m:aV) (nx:Nat) (k:Nat):Nat:=bif Nat.blt k m.base then k else nx+wN k m.hout 0
def IB (m:aV) (k:Nat):Bool:=Nat.blt k m.base||nF k (m.hout.map (·.1))
noncomputable def JE (ρ:Nat→Nat):List (Nat × List EV)→Nat→Hp→Hp
 |[],_,H=>H
 |q::l,k,H=>JE ρ l (k+1) (H.set k (some (.kn (EV.renL ρ q.2))))
noncomputable def JF (m:aV):cb:=fun f ar H nx=>
 bif Nat.beq f m.f&&(Nat.ble nx m.base&&yO ar m.ar)&&m.hin.all (Fp H) then
  bif m.x.okN (IB m)&&m.hout.all (fun q=>EV.okNL (IB m) q.2&&Nat.ble m.base q.1)&&wM (m.hout.map (·.1)) then
   some (m.x.ren (Dq m nx),JE (Dq m nx) m.hout nx (nG m.hin H),nx+m.hout.length)
  else none
 else none
theorem te:∀(l:List (Nat × List EV)) (i j:Nat) (q:Nat × List EV),(l.map (·.1)).Nodup→l[j]?=some q→wN q.1 l i=i+j
 |[],_,_,_,_,h=>by simp at h
 |r::l,i,0,q,_,h=>by
  simp at h;subst h
  unfold wN
  rw[show Nat.beq r.1 r.1=true from Nat.beq_refl _];rfl
 |r::l,i,j+1,q,hn,h=>by
  rw[List.map_cons,List.nodup_cons] at hn
  have h:l[j]?=some q:=by simpa using h
  have hne:r.1≠q.1:=fun e=>hn.1 (e▸List.mem_map_of_mem (w0 h))
  have hb:Nat.beq r.1 q.1=false:=by
   cases e:Nat.beq r.1 q.1 with
   |false=>rfl
   |true=>exact absurd (Nat.eq_of_beq_eq_true e) hne
  unfold wN
  rw[hb]
  show wN q.1 l (i+1)=_
  rw[te l (i+1) j q hn.2 h];omega
section
variable {P:Program} {E:World}
theorem yQ {I:aP} {φ:cN} {n:Nat} {F:List (Nat × Obj)} {w:World} {ρ:Nat→Nat}:∀(l:List (Nat × List EV)) (k:Nat) (H:Hp),dg I φ H n F E w→(∀j,k≤j→H.get j=none)→(∀(j:Nat) q,l[j]?=some q→gn I φ (k+j) (.kn (EV.renL ρ q.2)) [])→dg I φ (JE ρ l k H) n F E w
 |[],_,_,h,_,_=>h
 |q::l,k,H,h,hn,hb=>by
  refine yQ l (k+1) _ (h.addK (hn k (Nat.le_refl _)) (hb 0 q Z)) (fun j hj=>?_) fun j r hr=>?_
  ·rw[Tr.get_set,if_neg (by omega)];exact hn j (by omega)
  ·have:=hb (j+1) r (by simpa using hr)
   rwa [show k+(j+1)=k+1+j by omega] at this
theorem Ho {m:aV} (hM:aF P E m):db P E (JF m):=fun f ar H nx x H' nx' h φ I F w vs hR hr=>by
 unfold JF at h
 cases hb:(Nat.beq f m.f&&(Nat.ble nx m.base&&yO ar m.ar)&&m.hin.all (Fp H)) with
 |false=>rw[hb] at h;cases h
 |true=>
  rw[hb] at h
  simp only[cond_true] at h
  cases hb2:(m.x.okN (IB m)&&m.hout.all (fun q=>EV.okNL (IB m) q.2&&Nat.ble m.base q.1)&&wM (m.hout.map (·.1))) with
  |false=>rw[hb2] at h;cases h
  |true=>
   rw[hb2] at h
   simp only[cond_true,Option.some.injEq,Prod.mk.injEq] at h
   obtain ⟨rfl,rfl,rfl⟩:=h
   simp only[w6,w7] at hb hb2
   obtain ⟨⟨c1,c2,c3⟩,c4⟩:=hb
   obtain ⟨⟨d1,d2⟩,d3⟩:=hb2
   have c1:=Nat.eq_of_beq_eq_true c1
   have c2:=Nat.le_of_ble_eq_true c2
   have c3:=(pU 2000).2 _ _ c3
   subst c1 c3
   have d3:=oq d3
   obtain ⟨J,j1,j2,j3⟩:=dg.frzL m.hin hR fun q hq=>yP (c4 q hq)
   obtain ⟨ht,M,L,hn,hm,hrep,hS⟩:=j3
   refine (hM φ J (L++F) w vs j2 hr hS fun j hj=>ht j (Nat.le_trans c2 hj)).mono fun v w' ⟨K,ψ,k1,k2,k3,k4,k5⟩=>?_
   obtain ⟨χ,hχ⟩:∃χ:cN,χ=fun j=>if j<nx then φ j else if nx≤j∧j<nx+m.hout.length then (m.hout[j - nx]?).bind fun q=>ψ q.1 else none:=⟨_,rfl⟩
   have hle:φ.le χ:=fun b q e=>by
    rw[hχ]
    by_cases hb:b<nx
    ·simp only[if_pos hb];exact e
    ·rw[ht b (by omega)] at e;cases e
   have hren:∀b q,IB m b=true→ψ b=some q→χ (Dq m nx b)=some q:=fun b q hk hq=>by
    unfold Dq
    by_cases hb:b<m.base
    ·rw[show Nat.blt b m.base=true from Nat.ble_eq_true_of_le hb]
     rw[k2 b hb] at hq
     exact hle b q hq
    ·rw[show Nat.blt b m.base=false from by
      cases e:Nat.blt b m.base with
      |false=>rfl
      |true=>exact absurd (Nat.le_of_ble_eq_true e) (by omega)]
     unfold IB at hk
     rw[Bool.or_eq_true] at hk
     have hk:=hk.resolve_left fun e=>hb (Nat.le_of_ble_eq_true e)
     obtain ⟨r,hr2,e⟩:=List.mem_map.1 (gy.1 hk)
     obtain ⟨i,hi⟩:=List.getElem?_of_mem hr2
     have hil:=(List.getElem?_eq_some_iff.1 hi).1
     have hp:=te m.hout 0 i r d3 hi
     have e:r.1=b:=e
     rw[e] at hp
     show χ (nx+wN b m.hout 0)=some q
     rw[hp,hχ]
     simp only
     rw[if_neg (by omega),if_pos (by omega),show nx+(0+i) - nx=i by omega,hi]
     show ψ r.1=some q
     rw[e];exact hq
   have htop:∀j,nx+m.hout.length≤j→χ j=none:=fun j hj=>by
    rw[hχ];simp only
    rw[if_neg (by omega),if_neg (by omega)]
   have hR2:dg K χ (nG m.hin H) (nx+m.hout.length) F E w':=⟨htop,M,L,hn,hm,hrep.mono k1 hle,k5⟩
   have hnone:∀j,nx≤j→(nG m.hin H).get j=none:=fun j hj=>by
    cases ho:(nG m.hin H).get j with
    |none=>rfl
    |some o=>
     obtain ⟨q,hq⟩:=hrep.phi _ ((hm j o).2 ho)
     rw[ht j hj] at hq;cases hq
   refine ⟨K,χ,j1.trans k1,hle,fun j hj _=>by rw[hχ];simp only;rw[if_pos hj],by omega,aY.ren hren m.x v d1 k3,?_⟩
   refine yQ m.hout nx _ hR2 hnone fun j q hq=>?_
   have hqm:=w0 hq
   obtain ⟨p,us,p1,p2,p3,p4,_⟩:=k4 q hqm
   have hd:=d2 q hqm
   have hpos:=te m.hout 0 j q d3 hq
   have hok:IB m q.1=true:=by
    unfold IB
    rw[Bool.or_eq_true]
    exact .inr (gy.2 (List.mem_map_of_mem hqm))
   have hu:Dq m nx q.1=nx+j:=by
    unfold Dq
    rw[show Nat.blt q.1 m.base=false from by
     cases e:Nat.blt q.1 m.base with
     |false=>rfl
     |true=>exact absurd (Nat.le_of_ble_eq_true e) (by have:=Nat.le_of_ble_eq_true hd.2;omega),hpos,Nat.zero_add];rfl
   refine ⟨p,us,by rw[←hu];exact hren _ _ hok p1,RelVs.ren hren _ _ hd.1 p2,p3,p4,rfl⟩
noncomputable def JG:List aV→cb
 |[]=>fun _ _ _ _=>none
 |m::l=>K5 (JF m) (JG l)
theorem tf:∀{l:List aV},(∀m∈l,aF P E m)→db P E (JG l)
 |[],_=>fun f ar H nx x H' nx' h=>by cases h
 |m::l,h=>pX (Ho (h m (.head _))) (tf fun r hr=>h r (.tail _ hr))
end
end
section
open Go.Proofs
section
variable {I:G} {ψ:cN} {hs:List (Nat × List EV)} {nv:Nat} {val:Nat→Int}
end
section
variable {P:Program} {E:World}
theorem Fq {call:cb} (hC:db P E call) {m:aV} (hn:wM (m.hin.map (·.1))=true)
  (h:(match call m.f m.ar (J2 m.hin) m.base with|some (x,H',_)=>some (x,m.hout.map fun q=>(H'.get q.1).bind VO.cs?)|none=>none)=some (m.x,m.hout.map fun q=>some q.2)):aF P E m:=fun φ I F w vs hin hr hS ht=>by
 split at h
 ·rename_i x H' nx' hc
  simp only[Option.some.injEq,Prod.mk.injEq] at h
  obtain ⟨rfl,h2⟩:=h
  have h2:∀q∈m.hout,(H'.get q.1).bind VO.cs?=some q.2:=fun q hq=>by
   obtain ⟨i,hi⟩:=List.getElem?_of_mem hq
   have:=congrArg (fun l:List (Option (List EV))=>l[i]?) h2
   simp only[qy,hi,Option.map_some,Option.some.injEq] at this
   exact this
  have hnd:=oq hn
  have hR:dg I φ (J2 m.hin) m.base F E w:=by
   refine ⟨ht,m.hin.map fun q=>(q.1,.kn q.2),[],?_,fun j o=>?_,?_,hS⟩
   ·rw[List.map_map];exact hnd
   ·rw[show J2 m.hin=nG m.hin .lf from rfl,td m.hin .lf j o hnd fun _ _=>Tr.get_lf _,Tr.get_lf,List.mem_map]
    constructor
    ·rintro ⟨q,hq,e⟩
     cases e
     exact .inl ⟨q.2,hq,rfl⟩
    ·rintro (⟨cs,h1,rfl⟩|h)
     ·exact ⟨(j,cs),h1,rfl⟩
     ·cases h
   ·generalize m.hin=l at hin
    clear hn hnd hc h2 hr
    induction l with
    |nil=>rfl
    |cons q l ih=>exact ⟨[],[],rfl,hin q (.head _),ih fun r hr=>hin r (.tail _ hr)⟩
  refine (hC _ _ _ _ _ _ _ hc φ I F w vs hR hr).mono fun v w' ⟨J,ψ,a,b,c,d,e,f⟩=>?_
  obtain ⟨K,k1,k2,k3⟩:=dg.frzL m.hout f fun q hq=>h2 q hq
  exact ⟨K,ψ,a.trans k1,fun j hj=>c j hj (Nat.ne_of_lt hj),e,k2,k3.sl⟩
 ·cases h
end
end
end Go.Proofs.YtjpnhkmfhlnpcaaGreatDoor
