/- Whether a check is proved by the facts. Of facts of nodes that there are, not great. -/
import Derived.Test.YtdilpodccjlkgaaGreatDoorHm
import Derived.Test.YtdilpodccjlkgaaGreatDoorHa
import Derived.Test.YtdilpodccjlkgaaGreatDoorHc
import Derived.Test.YtdilpodccjlkgaaGreatDoorHi
import Derived.Test.YtdilpodccjlkgaaGreatDoorHd
import Derived.Test.YtdilpodccjlkgaaGreatDoorHf
set_option linter.unusedVariables false
set_option linter.unusedSimpArgs false
set_option linter.unusedSectionVars false
namespace Go.Proofs.YtdilpodccjlkgaaGreatDoor
open Go.Proofs.Tryz
theorem pl {E:Int→List Int} {n:Nat} (hG:eV E n) {a b:Int} (h:gF E a b) (k:gF E b a):a=b:=by
 have hb:b∈aA E n:=(bP hG.toEOk b).2 h.1
 have ha:a∈aA E n:=(bP hG.toEOk a).2 k.1
 have l1:=hG.lev_anc hb ((hG.dom_iff hb).1 h)
 have l2:=hG.lev_anc ha ((hG.dom_iff ha).1 k)
 exact l1.2.2 l2.2.1
def Av (f:ad) (b k:Int) (v:Int):Prop:=kn f (aL f v) b k
section
variable {f:ad} (hE:bV f)
include hE
end
theorem eH {f:ad} {v:Int} (h:0≤(aL f v).1):∃(i:Nat) (b:aY),f.blocks[i]?=some b∧(aL f v).1=i∧((∃p∈b.phis,p.dst=v∧(aL f v).2=-1)∨∃(k:Nat) (x:aF),b.insts[k]?=some x∧x.dst=v∧(aL f v).2=k):=by
 obtain ⟨i,b,h1,h2⟩:=uz h
 refine ⟨i,b,h1,?_,?_⟩
 ·rcases h2 with ⟨p,_,_,e⟩|⟨k,x,_,_,e⟩<;>rw[e]
 ·rcases h2 with ⟨p,h3,h4,e⟩|⟨k,x,h3,h4,e⟩
  ·exact .inl ⟨p,h3,h4,by rw[e]⟩
  ·exact .inr ⟨k,x,h3,h4,by rw[e]⟩
structure Ge (f:ad):Prop where
 inst:∀(i k:Nat) (b:aY) (x:aF),f.blocks[i]?=some b→b.insts[k]?=some x→0≤x.dst→aL f x.dst=((i:Int),(k:Int))
 phi:∀(i:Nat) (b:aY) (p:e7),f.blocks[i]?=some b→p∈b.phis→aL f p.dst=((i:Int),-1)
theorem Dv {f:ad} (ho:w8 f) (hi:∀b∈f.blocks,∀x∈b.insts,x.dst<f.vars.length) (hp:∀b∈f.blocks,∀p∈b.phis,0≤p.dst∧p.dst<f.vars.length):Ge f:=by
 have len:∀d:Int,0≤d→d<f.vars.length→(bu f d).length≤1:=fun d h0 h1=>by
  have:=(ho d.toNat (by omega)).1
  rwa [show ((d.toNat:Nat):Int)=d by omega] at this
 refine ⟨fun i k b x h1 h2 h0=>?_,fun i b p h1 h2=>?_⟩
 ·exact uy (len _ h0 (hi b (qu h1) x (qu h2))) (kA.2 ⟨i,b,h1,mW.2 (.inr ⟨k,x,h2,rfl,rfl⟩)⟩)
 ·obtain ⟨g0,g1⟩:=hp b (qu h1) p h2
  exact uy (len _ g0 g1) (kA.2 ⟨i,b,h1,mW.2 (.inl ⟨p,h2,rfl,rfl⟩)⟩)
end Go.Proofs.YtdilpodccjlkgaaGreatDoor
namespace Go.Proofs.YtdilpodccjlkgaaGreatDoor
open Go.Proofs.Tryz
structure KS where
 l:List eu
 p:List (Int × List Int)
def cQ (K:KS) (a b c:Int):KS:=if -bo≤c∧c≤bo∧K.l.length<8192 then ⟨K.l++[⟨a,b,c⟩],K.p⟩ else K
def addO (K:KS) (a b:Int) (o:Option Int):KS:=match o with|some c=>cQ K a b c|none=>K
def hU (K:KS) (a b:Int):KS:=cQ (cQ K a b 0) b a 0
section
variable (f:ad)
def bO (K:KS) (a b:Int):Option Int:=dE K.l (f.vars.length+1) a b
def b5 (K:KS) (a b c:Int):Bool:=gB K.l (f.vars.length+1) a b c
def bQ:Int:=f.vars.length
def xn (K:KS) (v:Int):Option fj:=match bO f K (bQ f) v,bO f K v (bQ f) with|some lo,some hi=>some (-lo,hi)|_,_=>none
def BM (k:Nat) (a b:fj):Bool:=decide (a.2<a.1∨b.2<b.1∨fF k a b)
def lh (K:KS) (k:Nat) (y z:Int):Bool:=match xn f K y,xn f K z with|some a,some b=>BM k a b|_,_=>false
def mo (K:KS) (op:Int) (l:List Int):Bool:=K.p.any fun q=>decide (q.1=op∧q.2=l)
def eg (K:KS) (v:Int):Bool:=b5 f K (bQ f) v 0
def jD (K:KS) (x:aF):KS:=
 if mo K (x.op+19) x.args=false∧lh f K (x.op - 2).toNat (bc x) (bC x)=false then K
 else if x.op=3 then addO (addO K x.dst (bc x) (bO f K (bQ f) (bC x))) (bc x) x.dst (bO f K (bC x) (bQ f))
 else addO (addO (addO (addO K x.dst (bc x) (bO f K (bC x) (bQ f))) (bc x) x.dst (bO f K (bQ f) (bC x))) x.dst (bC x) (bO f K (bc x) (bQ f))) (bC x) x.dst (bO f K (bQ f) (bc x))
def dA (K:KS) (x:aF):KS:=if eg f K (bc x)=true∧(eg f K (bC x)=true∨x.op=6) then cQ (cQ K (bQ f) x.dst 0) x.dst (bc x) 0 else K
def gQ (K:KS) (x:aF):KS:=if eg f K (bC x)=true∧x.op=6 then cQ (dA f K x) x.dst (bC x) (-1) else dA f K x
def gR (K:KS) (x:aF):KS:=
 if x.op=0∧-bo≤x.num∧x.num≤bo then cQ (cQ K x.dst (bQ f) x.num) (bQ f) x.dst (-x.num)
 else if (x.op=1∧¬bp f x.dst=1)∨x.op=12∨x.op=15 then hU K x.dst (bc x)
 else if x.op=16 then hU K x.dst (bQ f)
 else if x.op=2∨x.op=3 then jD f K x
 else if x.op=5∨x.op=6 then gQ f K x
 else K
def iI (K:KS) (x:aF):KS:=
 if x.op=18 then cQ (cQ ⟨K.l,K.p++[(x.op,x.args)]⟩ (bQ f) (bC x) 0) (bC x) (bc x) (-1)
 else if x.op=24 then cQ (cQ ⟨K.l,K.p++[(x.op,x.args)]⟩ (bQ f) (bc x) 0) (bc x) (bQ f) 64
 else if x.op=20 then
  if eg f K (bc x)=true then cQ ⟨K.l,K.p++[(x.op,x.args)]⟩ (bQ f) (bc x) (-1)
  else if b5 f K (bc x) (bQ f) 0=true then cQ ⟨K.l,K.p++[(x.op,x.args)]⟩ (bc x) (bQ f) (-1)
  else ⟨K.l,K.p++[(x.op,x.args)]⟩
 else ⟨K.l,K.p++[(x.op,x.args)]⟩
def dk (K:KS) (x:aF):KS:=if 18≤x.op∧x.op≤24 then iI f K x else gR f K x
def b4 (v:Int):Option aF:=if 0≤(aL f v).1∧0≤(aL f v).2 then (f.blocks[(aL f v).1.toNat]?).bind fun b=>b.insts[(aL f v).2.toNat]? else none
def E4 (v:Int):Bool:=match b4 f v with|some y=>decide (y.op=15)|none=>false
def kB (K:KS) (x:aF):Bool:=mo K x.op x.args ||
 (if x.op=18 then b5 f K (bQ f) (bC x) 0&&b5 f K (bC x) (bc x) (-1)
  else if x.op=19 then E4 f (bc x)||b5 f K (bQ f) (bc x) (-1)
  else if x.op=20 then b5 f K (bQ f) (bc x) (-1)||b5 f K (bc x) (bQ f) (-1)
  else if x.op=24 then b5 f K (bQ f) (bc x) 0&&b5 f K (bc x) (bQ f) 64
  else lh f K (x.op - 21).toNat (bc x) (bC x))
structure v2 where
 a:Int
 b:Int
 n:Int
def et (K:KS) (r:v2):KS:=if r.n=0 then cQ K r.a r.b (-1) else if r.n=1 then cQ K r.a r.b 0 else if r.n=2 then hU K r.a r.b else K
end
section
variable {u:Int→Int}
end
end Go.Proofs.YtdilpodccjlkgaaGreatDoor
namespace Go.Proofs.YtdilpodccjlkgaaGreatDoor
open Go.Proofs.Tryz
set_option linter.unusedSectionVars false
def sB (l:List eu) (n:Nat) (now:List (Option Int)):List (Option Int):=l.foldl (gA now) (List.replicate n none)
def zQ (o p:Option Int):Option Int:=match p with
 |none=>o
 |some s=>match o with
  |none=>some s
  |some m=>if s<m then some s else some m
def zR (l:List eu) (n:Nat) (a:Int):Nat→Option Int × List (Option Int)→Option Int × List (Option Int)
 |0,q=>q
 |k+1,q=>zR l n a k (zQ q.1 (jn (sB l n q.2) a),sB l n q.2)
def BN (l:List eu) (n:Nat) (a b:Int):Option Int:=(zR l n a 6 (if a=b then some 0 else none,ga n b)).1
def v6 (l:List eu) (b:Int):Nat→Int→Int→Prop
 |0,v,c=>v=b∧c=0
 |k+1,v,c=>∃q∈l,q.a=v∧∃s,v6 l b k q.b s∧c=s+q.c
structure Mn (S:Int→Prop) (o:Option Int):Prop where
 som:∀m,o=some m→S m∧∀k,S k→m≤k
 non:o=none→∀k,¬S k
theorem Mn.one {S:Int→Prop} {o p:Option Int} (h:Mn S o) (k:Mn S p):o=p:=by
 cases o with
 |none=>
  cases p with
  |none=>rfl
  |some m=>exact absurd (k.som m rfl).1 (h.non rfl m)
 |some m=>
  cases p with
  |none=>exact absurd (h.som m rfl).1 (k.non rfl m)
  |some q=>have h1:=(h.som m rfl);have h2:=(k.som q rfl);have:=h1.2 q h2.1;have:=h2.2 m h1.1;rw[show m=q by omega]
theorem Mn.congr {S T:Int→Prop} {o:Option Int} (h:Mn S o) (hs:∀k,S k→T k) (ht:∀k,T k→∃m,S m∧m≤k):Mn T o:=
 ⟨fun m e=>⟨hs m (h.som m e).1,fun k hk=>by obtain ⟨q,h1,h2⟩:=ht k hk;have:=(h.som m e).2 q h1;omega⟩,fun e k hk=>by obtain ⟨q,h1,_⟩:=ht k hk;exact h.non e q h1⟩
theorem Mn.min {S T:Int→Prop} {o p:Option Int} (h:Mn S o) (k:Mn T p):Mn (fun c=>S c∨T c) (zQ o p):=by
 unfold zQ
 cases p with
 |none=>exact h.congr (fun _=>.inl) fun c hc=>⟨c,hc.resolve_right (k.non rfl c),Int.le_refl _⟩
 |some s=>
  have h1:=k.som s rfl
  cases o with
  |none=>exact k.congr (fun _=>.inr) fun c hc=>⟨c,hc.resolve_left (h.non rfl c),Int.le_refl _⟩
  |some m=>
   have h2:=h.som m rfl
   dsimp only
   split
   ·exact k.congr (fun _=>.inr) fun c hc=>hc.elim (fun hc=>⟨s,h1.1,by have:=h2.2 c hc;omega⟩) fun hc=>⟨c,hc,Int.le_refl _⟩
   ·exact h.congr (fun _=>.inl) fun c hc=>hc.elim (fun hc=>⟨c,hc,Int.le_refl _⟩) fun hc=>⟨m,h2.1,by have:=h1.2 c hc;omega⟩
theorem Dw {now next:List (Option Int)} {n:Nat} (hn:next.length=n) {q:eu} (hq:vn n q) {v:Int} (hv:0≤v):jn (gA now next q) v=if v=q.a then zQ (jn next v) ((jn now q.b).map (·+q.c)) else jn next v:=by
 unfold gA zQ
 cases h1:jn now q.b with
 |none=>dsimp only[Option.map_none];split<;>rfl
 |some s=>
  dsimp only[Option.map_some]
  cases h2:jn next q.a with
  |none=>
   dsimp only
   rw[Az hn hq.1 hv]
   split
   ·rename_i e;subst e;rw[h2]
   ·rfl
  |some m=>
   dsimp only
   by_cases h3:s+q.c<m
   ·rw[if_pos h3,Az hn hq.1 hv]
    split
    ·rename_i e;subst e;rw[h2];simp[h3]
    ·rfl
   ·rw[if_neg h3]
    split
    ·rename_i e;subst e;rw[h2];simp[h3]
    ·rfl
theorem Mn.fold {now:List (Option Int)} {S:Int→Int→Prop} {n:Nat} (hS:∀v,gj n v→Mn (S v) (jn now v)) {v:Int} (hv:gj n v):∀(l:List eu) (next:List (Option Int)) (T:Int→Prop),next.length=n→(∀q∈l,vn n q)→Mn T (jn next v) →
  Mn (fun c=>T c∨∃q∈l,q.a=v∧∃s,S q.b s∧c=s+q.c) (jn (l.foldl (gA now) next) v)
 |[],_,T,_,_,h=>h.congr (fun _=>.inl) fun c hc=>hc.elim (fun hc=>⟨c,hc,Int.le_refl _⟩) fun ⟨q,hq,_⟩=>(by cases hq)
 |q::l,next,T,hn,hl,h=>by
  rw[List.foldl_cons]
  have hq:=hl q (.head _)
  have hq2:=hS q.b hq.2
  have step:Mn (fun c=>T c∨(q.a=v∧∃s,S q.b s∧c=s+q.c)) (jn (gA now next q) v):=by
   rw[Dw hn hq hv.1]
   split
   ·rename_i e
    refine h.min (T:=fun c=>q.a=v∧∃s,S q.b s∧c=s+q.c) ⟨fun m hm=>?_,fun hm=>?_⟩
    ·cases hb:jn now q.b with
     |none=>rw[hb] at hm;cases hm
     |some s=>
      rw[hb] at hm
      cases hm
      have:=hq2.som s hb
      refine ⟨⟨e.symm,s,this.1,U⟩,fun k hk=>?_⟩
      obtain ⟨_,s',h1,rfl⟩:=hk
      have:=this.2 s' h1
      dsimp only
      omega
    ·cases hb:jn now q.b with
     |none=>exact fun k hk=>by obtain ⟨_,s',h1,_⟩:=hk;exact hq2.non hb s' h1
     |some s=>rw[hb] at hm;cases hm
   ·rename_i e
    exact h.congr (fun _=>.inl) fun c hc=>⟨c,hc.resolve_right fun h=>e h.1.symm,Int.le_refl _⟩
  refine (Mn.fold hS hv l _ _ ((tc _ _ _).trans hn) (fun p hp=>hl p (.tail _ hp)) step).congr (fun c hc=>?_) fun c hc=>⟨c,?_,Int.le_refl _⟩
  ·rcases hc with (hc|⟨h1,h2⟩)|⟨p,hp,h1⟩
   ·exact .inl hc
   ·exact .inr ⟨q,.head _,h1,h2⟩
   ·exact .inr ⟨p,.tail _ hp,h1⟩
  ·rcases hc with hc|⟨p,hp,h1⟩
   ·exact .inl (.inl hc)
   ·rcases List.mem_cons.1 hp with rfl|hp
    ·exact .inl (.inr h1)
    ·exact .inr ⟨p,hp,h1⟩
section
variable {l:List eu} {n:Nat} {b:Int} (hl:∀q∈l,vn n q) (hb:gj n b)
include hb
theorem Mn.beg {v:Int} (hv:gj n v):Mn (v6 l b 0 v) (jn (ga n b) v):=by
 unfold ga
 rw[Az (n:=n) (by simp) hb hv.1]
 have hrep:jn (List.replicate n (none:Option Int)) v=none:=by
  unfold jn gj at *
  rw[List.getElem?_replicate,if_pos (by omega)];rfl
 by_cases e:v=b
 ·rw[if_pos e]
  exact ⟨fun m hm=>by cases hm;exact ⟨⟨e,rfl⟩,fun k hk=>by rw[hk.2];exact Int.le_refl _⟩,fun h=>by cases h⟩
 ·rw[if_neg e,hrep]
  exact ⟨fun m hm=>(by cases hm),fun _ k hk=>e hk.1⟩
include hl
theorem Mn.exact {k:Nat} {now:List (Option Int)} (h:∀v,gj n v→Mn (v6 l b k v) (jn now v)) {v:Int} (hv:gj n v):Mn (v6 l b (k+1) v) (jn (sB l n now) v):=by
 have hrep:jn (List.replicate n (none:Option Int)) v=none:=by
  unfold jn gj at *
  rw[List.getElem?_replicate,if_pos (by omega)];rfl
 have:=Mn.fold (S:=v6 l b k) h hv l (List.replicate n none) (fun _=>False) (by simp) hl (by rw[hrep];exact ⟨fun m hm=>(by cases hm),fun _ k hk=>hk⟩)
 exact this.congr (fun c hc=>hc.resolve_left id) fun c hc=>⟨c,.inr hc,Int.le_refl _⟩
omit hb in
theorem Mn.relax {k:Nat} {now:List (Option Int)} (hn:now.length=n) (h:∀v,gj n v→Mn (fun c=>∃j,j≤k∧v6 l b j v c) (jn now v)) {v:Int} (hv:gj n v):Mn (fun c=>∃j,j≤k+1∧v6 l b j v c) (jn (mD l now) v):=by
 refine (Mn.fold (S:=fun v c=>∃j,j≤k∧v6 l b j v c) h hv l now _ hn hl (h v hv)).congr (fun c hc=>?_) fun c hc=>⟨c,?_,Int.le_refl _⟩
 ·rcases hc with ⟨j,h1,h2⟩|⟨q,h1,h2,s,⟨j,h3,h4⟩,h5⟩
  ·exact ⟨j,by omega,h2⟩
  ·exact ⟨j+1,by omega,q,h1,h2,s,h4,h5⟩
 ·obtain ⟨j,h1,h2⟩:=hc
  cases j with
  |zero=>exact .inl ⟨0,by omega,h2⟩
  |succ j=>
   obtain ⟨q,h3,h4,s,h5,h6⟩:=h2
   exact .inr ⟨q,h3,h4,s,⟨j,by omega,h5⟩,h6⟩
theorem Mn.it:∀(m k:Nat) (now:List (Option Int)),now.length=n→(∀v,gj n v→Mn (fun c=>∃j,j≤k∧v6 l b j v c) (jn now v))→∀v,gj n v→Mn (fun c=>∃j,j≤k+m∧v6 l b j v c) (jn (xN l m now) v)
 |0,_,_,_,h,v,hv=>h v hv
 |m+1,k,now,hn,h,v,hv=>by
  have:=Mn.it m (k+1) (mD l now) ((kL _ _ _).trans hn) (fun v hv=>Mn.relax hl hn h hv) v hv
  rw[show k+(m+1)=k+1+m by omega]
  exact this
theorem Mn.doc {a:Int} (ha:gj n a):∀(m k:Nat) (q:Option Int × List (Option Int)),Mn (fun c=>∃j,j≤k∧v6 l b j a c) q.1→(∀v,gj n v→Mn (v6 l b k v) (jn q.2 v))→Mn (fun c=>∃j,j≤k+m∧v6 l b j a c) (zR l n a m q).1
 |0,_,_,h,_=>h
 |m+1,k,q,h,h2=>by
  have h3:=fun v hv=>Mn.exact hl hb h2 (v:=v) hv
  have:=Mn.doc ha m (k+1) (zQ q.1 (jn (sB l n q.2) a),sB l n q.2) ((h.min (h3 a ha)).congr (fun c hc=>?_) fun c hc=>⟨c,?_,Int.le_refl _⟩) h3
  ·rw[show k+(m+1)=k+1+m by omega]
   exact this
  ·rcases hc with ⟨j,h1,h2⟩|h2
   ·exact ⟨j,by omega,h2⟩
   ·exact ⟨k+1,by omega,h2⟩
  ·obtain ⟨j,h1,h2⟩:=hc
   by_cases e:j=k+1
   ·exact .inr (e▸h2)
   ·exact .inl ⟨j,by omega,h2⟩
theorem Dx {a:Int} (ha:gj n a):BN l n a b=dE l n a b:=by
 have z:∀v,gj n v→Mn (fun c=>∃j,j≤0∧v6 l b j v c) (jn (ga n b) v):=fun v hv=>(Mn.beg (l:=l) hb hv).congr (fun c hc=>⟨0,Nat.le_refl _,hc⟩) fun c ⟨j,h1,h2⟩=>⟨c,(by rw[show j=0 by omega] at h2;exact h2),Int.le_refl _⟩
 refine Mn.one (Mn.doc hl hb ha 6 0 _ ?_ fun v hv=>Mn.beg hb hv) (Mn.it hl hb 6 0 _ ka z a ha)
 refine Mn.congr (S:=v6 l b 0 a) ?_ (fun c hc=>⟨0,Nat.le_refl _,hc⟩) fun c ⟨j,h1,h2⟩=>⟨c,(by rw[show j=0 by omega] at h2;exact h2),Int.le_refl _⟩
 dsimp only
 by_cases e:a=b
 ·rw[if_pos e]
  exact ⟨fun m hm=>by cases hm;exact ⟨⟨e,rfl⟩,fun k hk=>by rw[hk.2];exact Int.le_refl _⟩,fun h=>by cases h⟩
 ·rw[if_neg e]
  exact ⟨fun m hm=>(by cases hm),fun _ k hk=>e hk.1⟩
end
end Go.Proofs.YtdilpodccjlkgaaGreatDoor
namespace Go.Proofs.YtdilpodccjlkgaaGreatDoor
open Go.Proofs.Tryz
structure PX (s:GS) (x:aF):Prop where
 ck:18≤x.op→x.op≤24→F9 s x.op x.args=true
 i0:x.op=0→vi s.ints x.dst=x.num
 i1:x.op=1→V s x.dst=V s (bc x)
 i2:x.op=2→vi s.ints x.dst=IntKind.i64.wrap (pT 0 (aG s x) (bG s x))
 i3:x.op=3→vi s.ints x.dst=IntKind.i64.wrap (pT 1 (aG s x) (bG s x))
 i5:x.op=5→bG s x≠0∧vi s.ints x.dst=G6 (aG s x) (bG s x)
 i6:x.op=6→bG s x≠0∧vi s.ints x.dst=G7 (aG s x) (bG s x)
 i7:x.op=7→gb s.bools x.dst=decide (aG s x=bG s x)
 i8:x.op=8→gb s.bools x.dst=decide (aG s x<bG s x)
 i9:x.op=9→gb s.bools x.dst=decide (aG s x≤bG s x)
 i10:x.op=10→gb s.bools x.dst=!pG s x
 i11:x.op=11→gb s.bools x.dst=(pG s x&&qG s x)
 i12:x.op=12→0≤rG s x∧vi s.ints x.dst=(EZ s (rG s x)).length
 i15:x.op=15→0≤vi s.arrs x.dst∧((EZ s (vi s.arrs x.dst)).length:Int)=aG s x
 i16:x.op=16→vi s.arrs x.dst=-1
theorem dg.cnt {f:ad} {x:aF} {k:Int} (h:dg f x) (e:x.op=k):x.args.length=([0,1,2,2,2,2,2,2,2,2,1,2,1,2,3,1,0,1,2,1,1,2,2,2,1,2,2][k.toNat]?).getD 0:=e▸h.argc
section
variable {f:ad} {s t:GS} {x:aF}
theorem dg.d {k:Int} (hF:dg f x) (e:x.op=k) (hm:([true,true,true,true,true,true,true,true,true,true,true,true,true,true,false,true,true,false,false,false,false,false,false,false,false,true,true][k.toNat]?).getD false=true):x.dst<f.vars.length∧0≤x.dst:=hF.made (e▸hm)
end
end Go.Proofs.YtdilpodccjlkgaaGreatDoor
namespace Go.Proofs.YtdilpodccjlkgaaGreatDoor
open Go.Proofs.Tryz
section
variable {f:ad} {s:GS} {K:KS}
end
section
variable {f:ad} {x:aF}
end
section
variable {f:ad} {s:GS} {K:KS} {x:aF}
end
end Go.Proofs.YtdilpodccjlkgaaGreatDoor
namespace Go.Proofs.YtdilpodccjlkgaaGreatDoor
open Go.Proofs.Tryz
structure gq where
 seen:List (Int × Bool)
 out:List v2
def dS (q:gq) (a b n:Int):gq:=if a=b then q else ⟨q.seen,q.out++[⟨a,b,n⟩]⟩
section
variable (f:ad)
def fv:Nat→gq→Int→Bool→gq
 |0,q,_,_=>q
 |n+1,q,c,is=>if q.seen.contains (c,is)=true then q else
  match b4 f c with
  |none=>⟨q.seen++[(c,is)],q.out⟩
  |some x=>
   if x.op=10 then fv n ⟨q.seen++[(c,is)],q.out⟩ (bc x) (!is)
   else if x.op=1 then fv n ⟨q.seen++[(c,is)],q.out⟩ (bc x) is
   else if x.op=11 then (if is=true then fv n (fv n ⟨q.seen++[(c,is)],q.out⟩ (bc x) true) (bC x) true else ⟨q.seen++[(c,is)],q.out⟩)
   else if x.op=8 then (if is=true then dS ⟨q.seen++[(c,is)],q.out⟩ (bc x) (bC x) 0 else dS ⟨q.seen++[(c,is)],q.out⟩ (bC x) (bc x) 1)
   else if x.op=9 then (if is=true then dS ⟨q.seen++[(c,is)],q.out⟩ (bc x) (bC x) 1 else dS ⟨q.seen++[(c,is)],q.out⟩ (bC x) (bc x) 0)
   else if x.op=7 then (if is=true then dS ⟨q.seen++[(c,is)],q.out⟩ (bc x) (bC x) 2 else ⟨q.seen++[(c,is)],q.out⟩)
   else ⟨q.seen++[(c,is)],q.out⟩
def gS (c:Int) (is:Bool):List v2:=(fv f 100000 ⟨[],[]⟩ c is).out
def vg (i:Int):List v2:=match bd (ah f) f.blocks.length i with
 |[p]=>if (gW f p).term.kind=1∧(gW f p).term.to0≠(gW f p).term.to1 then gS f (gW f p).term.var (decide ((gW f p).term.to0=i)) else[]
 |_=>[]
def fJ (p q:Bool):Int:=if p=true then 1 else if q=true then 2 else 0
def fa (K:KS):Nat→Int→Int
 |0,_=>0
 |n+1,v=>match b4 f v with
  |none=>0
  |some x=>
   if x.op=8 then fJ (b5 f K (bc x) (bC x) (-1)) (b5 f K (bC x) (bc x) 0)
   else if x.op=9 then fJ (b5 f K (bc x) (bC x) 0) (b5 f K (bC x) (bc x) (-1))
   else if x.op=7 then fJ (b5 f K (bc x) (bC x) 0&&b5 f K (bC x) (bc x) 0) (b5 f K (bc x) (bC x) (-1)||b5 f K (bC x) (bc x) (-1))
   else if x.op=1 then fa K n (bc x)
   else if x.op=10 then fJ (decide (fa K n (bc x)=2)) (decide (fa K n (bc x)=1))
   else if x.op=11 then fJ (decide (fa K n (bc x)=1)&&decide (fa K n (bC x)=1)) (decide (fa K n (bc x)=2)||decide (fa K n (bC x)=2))
   else 0
def dU (K:KS) (v:Int):KS:=
 if bp f v=2 then cQ (cQ K v (bQ f) 64) (bQ f) v 0
 else if bp f v=0∧(f.params.length:Int)≤v∧(aL f v).1<0 then hU K v (bQ f)
 else K
def cT:KS:=(aU f.vars.length).foldl (dU f) ⟨[],[]⟩
def fK (K:KS) (i:Int):KS:=(vg f i).foldl et K
def nI (K:KS) (i:Int):KS:=(gW f i).insts.foldl (dk f) K
def qE:List Int→KS
 |[]=>cT f
 |b::up=>nI f (fK f (qE up) b) b
def upT (b:Int):List Int:=cN (bl (ah f) f.blocks.length) f.blocks.length b
def FA (b:Int) (k:Nat):KS:=((gW f b).insts.take k).foldl (dk f) (fK f (qE f (upT f b).tail) b)
end
def Gf (f:ad) (s:GS) (Good:Int→Prop):Prop:=∀v y,Good v→b4 f v=some y→(PX s y∧dg f y∧ft f y=true∧y.dst=v)∧∀a∈y.args,Good a
section
variable {f:ad} {s:GS} {K:KS} {Good:Int→Prop} (hG:Gf f s Good)
theorem G9 {x:aF} (hl:0<x.args.length):bc x∈x.args:=by unfold bc;rw[qk hl];exact qo hl
theorem Ha {x:aF} (hl:1<x.args.length):bC x∈x.args:=by unfold bC;rw[qk hl];exact qo hl
include hG
end
end Go.Proofs.YtdilpodccjlkgaaGreatDoor
namespace Go.Proofs.YtdilpodccjlkgaaGreatDoor
open Go.Proofs.Tryz
structure bE (f:ad):Prop where
 hT:∀b∈f.blocks,ii f b=true
 hS:b8 f
 hE:bV f
 hs:Be f
 hO:Ge f
 run:Ga f
theorem fw {f:ad} {i:Nat} {b:aY} (h:f.blocks[i]?=some b):gW f (i:Int)=b:=by unfold gW;rw[Int.toNat_natCast,h];rfl
section
variable {f:ad} (hR:bE f)
include hR
theorem bE.inF {i k:Nat} {x:aF} (h:E3 f i k x):dg f x∧ft f x=true:=by
 obtain ⟨b,hb,hx⟩:=h
 have hbm:=qu hb
 have hxm:=qu hx
 refine ⟨gp ((hR.hS.2.2.2.2.2 b hbm).2.1 x hxm),?_⟩
 have:=hR.hT b hbm
 unfold ii at this
 simp only[qz] at this
 exact List.all_eq_true.1 this.1.2 x hxm
theorem bE.av {i k:Nat} {x:aF} (h:E3 f i k x):∀v∈x.args,Av f i k v:=fun v hv=>by
 obtain ⟨b,hb,hx⟩:=h
 obtain ⟨hi,e⟩:=List.getElem?_eq_some_iff.1 hb
 obtain ⟨hk,e2⟩:=List.getElem?_eq_some_iff.1 hx
 have:=(hR.hs.2.2.2 i hi).2.1
 rw[e] at this
 exact this k hk v (by rw[e2];exact hv)
theorem bE.pred {c p:Int} (h:bd (ah f) f.blocks.length c=[p]):c∈ah f p∧∀q,c∈ah f q→q=p:=by
 have key:∀q,q∈bd (ah f) f.blocks.length c↔c∈ah f q:=fun q=>iU hR.hE.grph.toEOk (fun x hx=>iV hx)
 refine ⟨(key p).1 (by rw[h];exact .head _),fun q hq=>?_⟩
 have:=(key q).2 hq
 rw[h] at this
 exact List.mem_singleton.1 this
end
end Go.Proofs.YtdilpodccjlkgaaGreatDoor
namespace Go.Proofs.YtdilpodccjlkgaaGreatDoor
open Go.Proofs.Tryz
section
variable {f:ad} (hR:bE f)
include hR
end
end Go.Proofs.YtdilpodccjlkgaaGreatDoor
namespace Go.Proofs.YtdilpodccjlkgaaGreatDoor
open Go.Proofs.Tryz
theorem xo {f:ad} {v:Int} {y:aF} (h:b4 f v=some y):∃j k:Nat,E3 f j k y∧y.dst=v∧aL f v=((j:Int),(k:Int)):=by
 unfold b4 at h
 split at h
 ·rename_i h0
  obtain ⟨i,b,h1,h2,h3⟩:=eH h0.1
  rcases h3 with ⟨_,_,_,h4⟩|⟨k,x,h4,h5,h6⟩
  ·omega
  ·rw[h2,h6,Int.toNat_natCast,Int.toNat_natCast,h1] at h
   have h:b.insts[k]?=some y:=h
   rw[h4] at h
   cases h
   exact ⟨i,k,⟨b,h1,h4⟩,h5,Prod.ext h2 h6⟩
 ·cases h
section
variable {f:ad} (hR:bE f)
include hR
end
end Go.Proofs.YtdilpodccjlkgaaGreatDoor
namespace Go.Proofs.YtdilpodccjlkgaaGreatDoor
open Go.Proofs.Tryz
structure KB (f:ad) (K:KS):Prop where
 fac:∀q∈K.l,vn (f.vars.length+1) q∧(-bo≤q.c∧q.c≤bo)
 len:K.l.length≤8192
def aJ (f:ad) (v:Int):Prop:=0≤v∧v≤f.vars.length
section
variable {f:ad} {K:KS}
theorem KB.emp (f:ad):KB f ⟨[],[]⟩:=⟨fun q hq=>(by cases hq),by decide⟩
theorem KB.pass (h:KB f K) (p:List (Int × List Int)):KB f ⟨K.l,p⟩:=⟨h.fac,h.len⟩
theorem d5:aJ f (bQ f):=by unfold aJ bQ;omega
theorem KB.add (h:KB f K) {a b c:Int} (ha:aJ f a) (hb:aJ f b):KB f (cQ K a b c):=by
 unfold cQ
 split
 ·rename_i hc
  refine ⟨fun q hq=>?_,by simp;omega⟩
  rcases List.mem_append.1 hq with hq|hq
  ·exact h.fac q hq
  ·rw[List.mem_singleton.1 hq]
   unfold aJ at ha hb
   unfold vn gj
   dsimp only
   omega
 ·exact h
theorem KB.addO (h:KB f K) {a b:Int} {o:Option Int} (ha:aJ f a) (hb:aJ f b):KB f (addO K a b o):=by cases o with|none=>exact h|some c=>exact h.add ha hb
theorem KB.both (h:KB f K) {a b:Int} (ha:aJ f a) (hb:aJ f b):KB f (hU K a b):=(h.add ha hb).add hb ha
theorem bv {v:Int} (h:v<f.vars.length∧0≤v):aJ f v:=⟨h.2,by omega⟩
theorem KB.stp (h:KB f K) {x:aF} (hF:dg f x):KB f (dk f K x):=by
 have a0:∀{k:Int},x.op=k→0<([0,1,2,2,2,2,2,2,2,2,1,2,1,2,3,1,0,1,2,1,1,2,2,2,1,2,2][k.toNat]?).getD 0→aJ f (bc x):=fun e h=>bv (hF.a0 (by rw[hF.cnt e];exact h))
 have a1:∀{k:Int},x.op=k→1<([0,1,2,2,2,2,2,2,2,2,1,2,1,2,3,1,0,1,2,1,1,2,2,2,1,2,2][k.toNat]?).getD 0→aJ f (bC x):=fun e h=>bv (hF.a1 (by rw[hF.cnt e];exact h))
 have nn:aJ f (bQ f):=d5
 unfold dk
 split
 ·unfold iI
  have hp:=h.pass (K.p++[(x.op,x.args)])
  split
  ·rename_i e;exact (hp.add nn (a1 e (by decide))).add (a1 e (by decide)) (a0 e (by decide))
  split
  ·rename_i _ e;exact (hp.add nn (a0 e (by decide))).add (a0 e (by decide)) nn
  split
  ·rename_i _ _ e
   split
   ·exact hp.add nn (a0 e (by decide))
   ·split
    ·exact hp.add (a0 e (by decide)) nn
    ·exact hp
  ·exact hp
 ·unfold gR
  split
  ·rename_i e
   have hd:=bv (hF.d e.1 rfl)
   exact (h.add hd nn).add nn hd
  split
  ·rename_i _ e
   rcases e with e|e|e
   ·exact h.both (bv (hF.d e.1 rfl)) (a0 e.1 (by decide))
   ·exact h.both (bv (hF.d e rfl)) (a0 e (by decide))
   ·exact h.both (bv (hF.d e rfl)) (a0 e (by decide))
  split
  ·rename_i e;exact h.both (bv (hF.d e rfl)) nn
  split
  ·rename_i e
   have hd:aJ f x.dst:=by rcases e with e|e<;>exact bv (hF.d e rfl)
   have h0:aJ f (bc x):=by rcases e with e|e<;>exact a0 e (by decide)
   have h1:aJ f (bC x):=by rcases e with e|e<;>exact a1 e (by decide)
   unfold jD
   split
   ·exact h
   ·split
    ·exact (h.addO hd h0).addO h0 hd
    ·exact (((h.addO hd h0).addO h0 hd).addO hd h1).addO h1 hd
  split
  ·rename_i e
   have hd:aJ f x.dst:=by rcases e with e|e<;>exact bv (hF.d e rfl)
   have h0:aJ f (bc x):=by rcases e with e|e<;>exact a0 e (by decide)
   have h1:aJ f (bC x):=by rcases e with e|e<;>exact a1 e (by decide)
   have hA:KB f (dA f K x):=by
    unfold dA
    split
    ·exact (h.add nn hd).add hd h0
    ·exact h
   unfold gQ
   split
   ·exact hA.add hd h1
   ·exact hA
  ·exact h
theorem KB.stps:∀(l:List aF) (K:KS),KB f K→(∀x∈l,dg f x)→KB f (l.foldl (dk f) K)
 |[],_,h,_=>h
 |x::l,_,h,hl=>KB.stps l _ (h.stp (hl x (.head _))) fun q hq=>hl q (.tail _ hq)
theorem KB.rel (h:KB f K) {r:v2} (ha:aJ f r.a) (hb:aJ f r.b):KB f (et K r):=by
 unfold et
 split
 ·exact h.add ha hb
 ·split
  ·exact h.add ha hb
  ·split
   ·exact h.both ha hb
   ·exact h
theorem KB.first:KB f (cT f):=by
 unfold cT
 have key:∀(l:List Int) (K:KS),KB f K→(∀v∈l,0≤v∧v<f.vars.length)→KB f (l.foldl (dU f) K):=fun l=>by
  induction l with
  |nil=>exact fun _ h _=>h
  |cons v l ih=>
   intro K h hl
   refine ih _ ?_ fun q hq=>hl q (.tail _ hq)
   obtain ⟨h0,h1⟩:=hl v (.head _)
   have hv:aJ f v:=⟨h0,by omega⟩
   unfold dU
   split
   ·exact (h.add hv d5).add d5 hv
   ·split
    ·exact h.both hv d5
    ·exact h
 exact key _ _ (KB.emp f) fun v hv=>cM.1 hv
end
end Go.Proofs.YtdilpodccjlkgaaGreatDoor
namespace Go.Proofs.YtdilpodccjlkgaaGreatDoor
open Go.Proofs.Tryz
def mC (f:ad) (v:Int):Nat:=if 0≤(aL f v).1∧0≤(aL f v).2 then (gi (bT (ah f) f.blocks.length) (aL f v).1).toNat*1025+(aL f v).2.toNat+1 else 0
theorem jE:∀(l:List aY) (b:aY),b∈l→b.insts.length≤fh l
 |c::l,b,h=>by
  have e:fh (c::l)=c.phis.length+c.insts.length+fh l:=by unfold fh;simp
  rcases List.mem_cons.1 h with rfl|h
  ·omega
  ·have:=jE l b h;omega
section
variable {f:ad} (hR:bE f)
include hR
theorem bE.insts {i k:Nat} {x:aF} (h:E3 f i k x):k<1024∧i<f.blocks.length:=by
 obtain ⟨b,hb,hx⟩:=h
 have h1:=jE _ _ (qu hb)
 have h2:=hR.hS.2.2.2.2.1
 have h3:=(List.getElem?_eq_some_iff.1 hx).1
 exact ⟨by omega,(List.getElem?_eq_some_iff.1 hb).1⟩
theorem bE.nblk:f.blocks.length≤64:=by
 have h:=hR.hS.1
 unfold nC at h
 simp only[Bool.or_eq_false_iff,decide_eq_false_iff_not] at h
 omega
theorem bE.lev {i:Nat} (hi:i<f.blocks.length):0≤gi (bT (ah f) f.blocks.length) (i:Int)∧gi (bT (ah f) f.blocks.length) (i:Int)<f.blocks.length:=by
 have hG:=hR.hE.grph
 have hm:=(bP hG.toEOk (i:Int)).2 (hR.hs.2.1 i hi)
 have:=hG.lev_nn hm
 have:=vA hG hm
 have:=hG.at_lt hm
 have:=fg hG
 omega
theorem bE.rk_arg {v:Int} {y:aF} (h:b4 f v=some y):∀a∈y.args,mC f a<mC f v:=fun a ha=>by
 obtain ⟨j,k,hat,hd,hm⟩:=xo h
 have hav:=hR.av hat a ha
 have hG:=hR.hE.grph
 have ev:mC f v=(gi (bT (ah f) f.blocks.length) (j:Int)).toNat*1025+k+1:=by
  unfold mC;rw[hm,if_pos ⟨by dsimp only;omega,by dsimp only;omega⟩];rfl
 rw[ev]
 unfold mC
 split
 ·rename_i h0
  obtain ⟨i,b,h1,h2,h3⟩:=eH h0.1
  rcases h3 with ⟨_,_,_,h4⟩|⟨q,x,h4,h5,h6⟩
  ·omega
  ·have hat2:E3 f i q x:=⟨b,h1,h4⟩
   have hb:=hR.insts hat2
   unfold Av at hav
   have hm2:aL f a=((i:Int),(q:Int)):=Prod.ext h2 h6
   rw[hm2] at hav ⊢
   have l1:=hR.lev hb.2
   have l2:=hR.lev (hR.insts hat).2
   rcases hav with g|⟨g1,g2⟩|⟨_,g1,g2⟩
   ·dsimp only at g;omega
   ·dsimp only at g1 g2 ⊢
    rw[g1,Int.toNat_natCast];omega
   ·dsimp only at g1 g2 ⊢
    have hmj:=(bP hG.toEOk (j:Int)).2 g2.1
    have hla:=hG.lev_anc hmj ((hG.dom_iff hmj).1 g2)
    have:gi (bT (ah f) f.blocks.length) (i:Int)<gi (bT (ah f) f.blocks.length) (j:Int):=by
     rcases Int.lt_or_le (gi (bT (ah f) f.blocks.length) (i:Int)) (gi (bT (ah f) f.blocks.length) (j:Int)) with h|h
     ·exact h
     ·exact absurd (hla.2.2 h) g1
    rw[Int.toNat_natCast];omega
 ·omega
theorem bE.rk_low (v:Int):mC f v<100000:=by
 unfold mC
 split
 ·rename_i h0
  obtain ⟨i,b,h1,h2,h3⟩:=eH h0.1
  rcases h3 with ⟨_,_,_,h4⟩|⟨q,x,h4,h5,h6⟩
  ·omega
  ·have hat2:E3 f i q x:=⟨b,h1,h4⟩
   have hb:=hR.insts hat2
   have l1:=hR.lev hb.2
   have:=hR.nblk
   rw[h2,h6,Int.toNat_natCast]
   omega
 ·omega
theorem bE.madeF {v:Int} {y:aF} (h:b4 f v=some y):dg f y∧ft f y=true∧y.dst=v:=by
 obtain ⟨j,k,hat,hd,_⟩:=xo h
 exact ⟨(hR.inF hat).1,(hR.inF hat).2,hd⟩
def sC (f:ad) (r:v2):Prop:=(aJ f r.a∧aJ f r.b)∧(0≤r.n∧r.n≤2)
omit hR in
theorem pn {q:gq} (h:∀r∈q.out,sC f r) {a b n:Int} (hr:sC f ⟨a,b,n⟩):∀r∈(dS q a b n).out,sC f r:=by
 unfold dS
 split
 ·exact h
 ·intro r hm
  rcases List.mem_append.1 hm with hm|hm
  ·exact h r hm
  ·rw[List.mem_singleton.1 hm];exact hr
theorem rE:∀(n:Nat) (q:gq) (c:Int) (is:Bool),(∀r∈q.out,sC f r)→∀r∈(fv f n q c is).out,sC f r
 |0,q,_,_,h=>h
 |n+1,q,c,is,h=>by
  unfold fv
  split
  ·exact h
  split
  ·exact h
  rename_i x hx
  obtain ⟨hF,_,_⟩:=hR.madeF hx
  have a0:∀{k:Int},x.op=k→0<([0,1,2,2,2,2,2,2,2,2,1,2,1,2,3,1,0,1,2,1,1,2,2,2,1,2,2][k.toNat]?).getD 0→aJ f (bc x):=fun e h=>bv (hF.a0 (by rw[hF.cnt e];exact h))
  have a1:∀{k:Int},x.op=k→1<([0,1,2,2,2,2,2,2,2,2,1,2,1,2,3,1,0,1,2,1,1,2,2,2,1,2,2][k.toNat]?).getD 0→aJ f (bC x):=fun e h=>bv (hF.a1 (by rw[hF.cnt e];exact h))
  split
  ·exact rE n ⟨_,_⟩ _ _ h
  split
  ·exact rE n ⟨_,_⟩ _ _ h
  split
  ·split
   ·exact rE n _ _ _ (rE n ⟨_,_⟩ _ _ h)
   ·exact h
  split
  ·rename_i e
   split
   ·exact pn (q:=⟨q.seen++[(c,is)],q.out⟩) h ⟨⟨a0 e (by decide),a1 e (by decide)⟩,by dsimp only;omega⟩
   ·exact pn (q:=⟨q.seen++[(c,is)],q.out⟩) h ⟨⟨a1 e (by decide),a0 e (by decide)⟩,by dsimp only;omega⟩
  split
  ·rename_i e
   split
   ·exact pn (q:=⟨q.seen++[(c,is)],q.out⟩) h ⟨⟨a0 e (by decide),a1 e (by decide)⟩,by dsimp only;omega⟩
   ·exact pn (q:=⟨q.seen++[(c,is)],q.out⟩) h ⟨⟨a1 e (by decide),a0 e (by decide)⟩,by dsimp only;omega⟩
  split
  ·rename_i e
   split
   ·exact pn (q:=⟨q.seen++[(c,is)],q.out⟩) h ⟨⟨a0 e (by decide),a1 e (by decide)⟩,by dsimp only;omega⟩
   ·exact h
  ·exact h
theorem Gg (i:Int):∀r∈vg f i,sC f r:=by
 unfold vg
 split
 ·split
  ·exact rE hR _ _ _ _ fun r hr=>(by cases hr)
  ·exact fun r hr=>(by cases hr)
 ·exact fun r hr=>(by cases hr)
omit hR in
theorem KB.rels:∀(l:List v2) (K:KS),KB f K→(∀r∈l,sC f r)→KB f (l.foldl et K)
 |[],_,h,_=>h
 |r::l,_,h,hl=>KB.rels l _ (h.rel (hl r (.head _)).1.1 (hl r (.head _)).1.2) fun q hq=>hl q (.tail _ hq)
theorem KB.entr {K:KS} (h:KB f K) (i:Int):KB f (fK f K i):=KB.rels _ _ h (Gg hR i)
theorem bE.blkF {i:Int} (h0:0≤i) (h1:i<f.blocks.length):∀x∈(gW f i).insts,dg f x:=fun x hx=>(hR.run.insts _ (xm h0 h1) x hx).1
end
end Go.Proofs.YtdilpodccjlkgaaGreatDoor
namespace Go.Proofs.YtdilpodccjlkgaaGreatDoor
open Go.Proofs.Tryz
open Go.Proofs Go.Lib Go.Shelf Go.RowKit
theorem BO:cX prog 54 #[(0,1),(1,1),(2,1),(3,1)] [.int .i64 0,.int .i64 0,.raw (.slice none 0 0),.int .i64 0]:=⟨_,_,j5,Z4,fun w=>by kernel_rfl,rfl⟩
variable {E:World}
set_option maxRecDepth 20000
def cD (q:Int × List Int):List AV:=[.int .i64 q.1,.fro 1 (q.2.map cW)]
def uB (P:List (Int × List Int)):Prop:=P.length≤1000000∧∀q∈P,q.2.length≤1000
def v7 (f:ad) (K:KS) (t pr:AV):AV:=vt (.fro 2 (f.vars.map fq)) (.fro 1 (f.params.map cW)) (.fro 7 (f.blocks.map cZ)) t (.fro 2 ((cE f).map eP.row)) pr (f.vars.length+1) K.l (bQ f) (.fro 2 (K.p.map cD))
theorem fW {f:ad} {K:KS} (hv:f.vars.length≤1000) (h:KB f K):mH (f.vars.length+1) K.l:=⟨by omega,h.fac,by have:=h.len;omega⟩
theorem ed {f:ad} {v:Int} (h:aJ f v):gj (f.vars.length+1) v:=by unfold aJ at h;unfold gj;omega
theorem bn {x:aF} (h:0<x.args.length):x.args[0]?=some (bc x):=by unfold bc;rw[qk h];rfl
theorem bw {x:aF} (h:1<x.args.length):x.args[1]?=some (bC x):=by unfold bC;rw[qk h];rfl
theorem E5 (op:Int) (k:Nat) (hk:k≤2) (hop:op=21+(k:Int)) {a b:fj} (ha:jW a) (hb:jW b):aK prog E 158 [.int .i64 op,.agg (iy a),.agg (iy b)] (.bool (decide (a.2<a.1∨b.2<b.1∨fF k a b))):=by
 have hcp:=tv k a b
 have hop2:2+op - 21=2+(k:Int):=by omega
 refine zq func158 U (by decide) U<|ae<|y9 (cs:=_) U U U<|y9 (cs:=_) U U U<|ab U<|z6<|zd<|zd<|ya (γ:=Bool) [0,4,5] (fun u=>[(12,.bool u)]) (fun u=>[]) (fun u=>u=true) ?_ (fun _ _ h=>h) ?_
 ·refine aO<|aa U<|za (yy U U)<|aj U<|zo (s:=9) U (fun c=>?_) (fun c=>?_)
  ·refine z8 U U c<|aa U<|z8 U U c<|za (qb U U)<|aq U c U<|z6 ?_
   exact ⟨_,de,aH,aD,by simp_all<;>omega⟩
  ·exfalso;simp at c;omega
 ·rintro u hu
  subst hu
  refine yl U U<|aO<|aa U<|aC U U<|za (Gv.sub U U (by unfold lj;omega))<|ap U<|z6<|ae<|aa U<|ze (Ei _) U<|aj U<|zo (s:=18) U (fun c1=>?_) (fun c1=>?_)
  ·refine z8 U U c1<|ac Zy Z9 U U<|z8 U U c1<|ze (mJ _) U<|z8 U U c1<|aj U<|zo (s:=21) U (fun c2=>?_) (fun c2=>?_)
   ·refine z7 U U c2<|z7 U U c2<|z8 U U c1<|aq U c2 U<|z8 U U c1<|aj U<|z7 U U U<|z7 U U U<|z7 U U U<|z7 U U U<|z7 U U U<|z7 U U U<|z8 U U c1<|aq U U U<|aq U c1 U<|ab U<|z6<|zi<|zm (x:=.bool _) U ?_
    exact jb (by simp_all)
   ·refine z8 U U c2<|ac Zy Z9 U U<|z8 U U c2<|ze (mJ _) U<|z8 U U c1<|au U c2 U<|z8 U U c1<|aj U<|zo (s:=25) U (fun c3=>?_) (fun c3=>?_)
    ·refine z7 U U c3<|z7 U U c3<|z7 U U c3<|z7 U U c3<|z7 U U c3<|z7 U U c3<|z8 U U c1<|aq U c3 U<|aq U c1 U<|ab U<|z6<|zi<|zm (x:=.bool _) U ?_
     exact jb (by simp_all)
    ·refine z8 U U c3<|aa U<|z8 U U c3<|ac Zy Z9 U U<|z8 U U c3<|ac Zy Z9 U U<|z8 U U c3<|ze (tQ (2+op - 21) k hk hop2 ha hb) U<|z8 U U c3<|za (Gv.field1 (v:=.bool _) X3 U Y7 U U)<|z8 U U c3<|aB U<|z8 U U c1<|au U c3 U<|aq U c1 U<|ab U<|z6<|zi<|zm (x:=.bool _) U ?_
     exact jb (by have h2:¬a.2<a.1:=(by simpa using c2);have h3:¬b.2<b.1:=(by simpa using c3);simp[h2,h3,hcp])
  ·exfalso;simp at c1;omega
theorem sD {f:ad} {K:KS} (hv:f.vars.length≤1000) (h:KB f K) (a b c d:Int):jW (-(dE K.l (f.vars.length+1) a b).getD 0,(dE K.l (f.vars.length+1) c d).getD 0):=by
 have h1:=l7 (fW hv h) (a:=a) (b:=b)
 have h2:=l7 (fW hv h) (a:=c) (b:=d)
 unfold jW cY
 have hm:Ec=-9223372036854775808:=rfl
 have hM:Ed=9223372036854775807:=rfl
 dsimp only
 omega
section
variable {f:ad} {K:KS} {t pr:AV} (hv:f.vars.length≤1000) (hK:KB f K)
include hv hK
theorem mq (x:aF) (hx:1<x.args.length) (h0:aJ f (bc x)) (h1:aJ f (bC x)) (k:Nat) (hk:k≤2) (hop:x.op=2+(k:Int)∨x.op=21+(k:Int)) :
  aK prog E 115 [v7 f K t pr,.agg (aP x)] (.bool (lh f K k (bc x) (bC x))):=by
 have hl:=fW hv hK
 have hq:=ed (d5 (f:=f))
 have hs0:=ot (E:=E) (f0:=.fro 2 (f.vars.map fq)) (f1:=.fro 1 (f.params.map cW)) (f2:=.fro 7 (f.blocks.map cZ)) (t:=t) (m:=.fro 2 ((cE f).map eP.row)) (pr:=pr) (ps:=.fro 2 (K.p.map cD)) hl (ed h0) hq
 have hs1:=ot (E:=E) (f0:=.fro 2 (f.vars.map fq)) (f1:=.fro 1 (f.params.map cW)) (f2:=.fro 7 (f.blocks.map cZ)) (t:=t) (m:=.fro 2 ((cE f).map eP.row)) (pr:=pr) (ps:=.fro 2 (K.p.map cD)) hl (ed h1) hq
 have ha:=sD hv hK (bQ f) (bc x) (bc x) (bQ f)
 have hb:=sD hv hK (bQ f) (bC x) (bC x) (bQ f)
 have hfit:aK prog E 158 _ _:=hop.elim (fun e=>F0 x.op k hk e ha hb) (fun e=>E5 x.op k hk e ha hb)
 have fin:∀P Q R S:Option Int,bO f K (bQ f) (bc x)=P→bO f K (bc x) (bQ f)=Q→bO f K (bQ f) (bC x)=R→bO f K (bC x) (bQ f)=S →
   lh f K k (bc x) (bC x)=((P.isSome&&Q.isSome)&&((R.isSome&&S.isSome)&&decide ((-P.getD 0,Q.getD 0).2<(-P.getD 0,Q.getD 0).1∨(-R.getD 0,S.getD 0).2<(-R.getD 0,S.getD 0).1∨fF k (-P.getD 0,Q.getD 0) (-R.getD 0,S.getD 0)))):=fun P Q R S e1 e2 e3 e4=>by
  unfold lh xn
  rw[e1,e2,e3,e4]
  cases P<;>cases Q<;>cases R<;>cases S<;>simp[BM]
 have fin:=fin _ _ _ _ rfl rfl rfl rfl
 unfold bO at fin
 rw[fin]
 unfold v7 vt at *
 refine zq func115 U (by decide) U<|ae<|y9 (cs:=_) U U U<|ab U<|z6<|ae<|bg U<|ao j5 U j8 U U<|aI j9 U<|za (bh 0 wz j6 U U U (bn (by omega)))<|ay j7 U<|ze (hs0) U<|bR U<|za (yz (v:=.agg _) U U)<|bZ U U<|y6 (cs:=[.int .i64 0,.int .i64 0]) Yr U U<|fun i5=>y1 Z9 U U U U U U .head U<|zf (yf (t:=5) U .head)<|ab U<|z6<|ae<|bg U<|ao j5 U j8 U U<|aI j9 U<|za (bh 1 wz j6 U U U (bw hx))<|ay j7 U<|ze (hs1) U<|bR U<|za (yz (v:=.agg _) U U)<|bZ U U<|y6 (cs:=[.int .i64 0,.int .i64 0]) Yr U U<|fun i7=>y1 Z9 U U U U U U .head U<|zf (yf (t:=7) U .head)<|ab U<|z6<|ae<|aj U<|aj U<|zo (s:=28) U (fun c1=>?_) (fun c1=>?_)
 ·refine z8 U U c1<|aj U<|aq U c1 U<|aj U<|zo (s:=31) U (fun c2=>?_) (fun c2=>?_)
  ·refine z8 U U c2<|ao j5 U jy U U<|z8 U U c2<|ay Z2 U<|z8 U U c2<|ac Zy Z9 U U<|z8 U U c2<|ac Zy Z9 U U<|z8 U U c2<|ze (hfit) U<|aq U c2 U<|ab U<|z6<|zi<|zm (x:=.bool _) U ?_
   exact jb (by simp_all)
  ·refine z7 U U c2<|z7 U U c2<|z7 U U c2<|z7 U U c2<|z7 U U c2<|au U c2 U<|ab U<|z6<|zi<|zm (x:=.bool _) U ?_
   exact jb (by simp_all)
 ·refine z7 U U c1<|au U c1 U<|aj U<|z7 U U U<|z7 U U U<|z7 U U U<|z7 U U U<|z7 U U U<|au U U U<|ab U<|z6<|zi<|zm (x:=.bool _) U ?_
  exact jb (by simp_all)
theorem v8 (op:Int) (l:List Int) (q:Int × List Int) (hq:q.2.length≤1000):aK prog E 154 ([.agg (cD q)]++[.pf [.int .i64 op],.pf [.fro 1 (l.map cW)]]) (.bool (decide (q.1=op∧q.2=l))):=by
 refine zq func154 U (by decide) U<|ae<|y9 (cs:=_) U U U<|ab U<|z6<|ae<|ao underlying187 U jy U U<|ay Z2 U<|ay Z2 U<|ai U U<|aj U<|zo (s:=9) U (fun c3=>?_) (fun c3=>?_)
 ·refine z8 U U c3<|ao underlying187 U j8 U U<|z8 U U c3<|aI j9 U<|z8 U U c3<|aI j9 U<|z8 U U c3<|ze (m9 q.2 l (by unfold oA;omega)) U<|aq U c3 U<|ab U<|z6<|zi<|zm (x:=.bool _) U ?_
  exact jb (by simp_all)
 ·refine z7 U U c3<|z7 U U c3<|z7 U U c3<|z7 U U c3<|au U c3 U<|ab U<|z6<|zi<|zm (x:=.bool _) U ?_
  exact jb (by simp_all)
omit hv hK in
theorem nJ {p:Int × List Int→Bool} {fn:FuncId} {c:List AV} (xs:List (Int × List Int)) (hl:xs.length≤281474976710656) (hp:∀x∈xs,aK prog E fn ([.agg (cD x)]++c) (.bool (p x))) :
  aK prog E 186 [.fro 2 (xs.map cD),.fn fn [] c] (.int .i64 (cK p xs 0)):=by
 refine zq func186 U (by decide) U<|ae<|ap U<|z6<|zd<|ae<|aT U<|ar Xb U<|aa U<|z6<|zj<|y8 (γ:=Nat) [0,1,7] (fun k=>[(8,.int .i64 k)]) (fun k=>[]) (fun k=>k≤xs.length∧(xs.take k).all (fun x=>!p x)) (fun k=>xs.length - k) 0 aH aD (⟨qn _,U⟩) ?_
 rintro k ⟨hk,hall⟩
 refine ae<|ax U U<|z6<|zd<|zu U (fun ck=>?_) (fun ck=>?_)
 ·have hk2:k<xs.length:=by simp at ck;omega
  refine zg<|zd<|zj<|ae<|aa U<|ap U<|z6<|ae<|za (yt (v:=.fn _ _ _) U)<|aT U<|aa U<|za (bh k Xb sizeOf187 U U U (qk hk2))<|ac isAgg187 sizeOf187 U U<|az.callVP U (hp _ (qo hk2)) U<|z6<|zy U (fun cp=>?_) (fun cp=>?_)
  ·refine ae<|aa U<|ap U<|z6<|zi<|zm (x:=.int _ _) U ?_
   rw[bK p xs k hk hall,List.drop_eq_getElem_cons hk2,cK,if_pos cp]
  ·refine zg<|aO<|aC U U<|aa U<|z6 ?_
   exact ⟨k+1,de,aH,aD,⟨hk2,by rw[ql hk2,List.all_append,hall];simp[cp]⟩,by omega⟩
 ·have hkn:k=xs.length:=by simp at ck;omega
  refine y7<|ae<|ap U<|z6<|zi<|zm (x:=.int _ _) U ?_
  rw[bK p xs k hk hall,hkn,List.drop_length,cK]
omit hv hK in
theorem lM {p:Int × List Int→Bool} {fn:FuncId} {c:List AV} (xs:List (Int × List Int)) (hl:xs.length≤281474976710656) (hp:∀x∈xs,aK prog E fn ([.agg (cD x)]++c) (.bool (p x))) :
  aK prog E 153 [.fro 2 (xs.map cD),.fn fn [] c] (.bool (xs.any p)):=by
 refine zq func153 U (by decide) U<|ae<|ab U<|z6<|ae<|aT U<|za (yt (v:=.fn _ _ _) U)<|ze (nJ xs hl hp) U<|za (yy U U)<|ab U<|z6<|zi<|zm (x:=.bool _) U ?_
 rw[eK]
theorem rF (hP:uB K.p) (op:Int) (l:List Int):aK prog E 112 [v7 f K t pr,.int .i64 op,.fro 1 (l.map cW)] (.bool (mo K op l)):=by
 unfold v7 vt
 refine zq func112 U (by decide) U<|ae<|y9 (cs:=[_]) U U U<|y9 (cs:=[_]) U U U<|ab U<|z6<|ae<|bg U<|za (yc U)<|ao je U sizeOf72 U U<|aI isAgg72 U<|za (Gv.func U U)<|ze (lM K.p (by have:=hP.1;omega) (fun q hq=>v8 hv hK op l q (hP.2 q hq))) U<|ab U<|z6<|zi<|zm (x:=.bool _) U ?_
 rfl
end
def Hi (o:Option aF):List AV:=match o with|some x=>aP x|none=>[.int .i64 0,.int .i64 0,.raw (.slice none 0 0),.int .i64 0]
theorem nk {f:ad} {K:KS} {t pr:AV} {v:Int} (h:aZ f v=true):aK prog E 114 [v7 f K t pr,.int .i64 v] (.tup [.agg (Hi (b4 f v)),.bool (b4 f v).isSome]):=by
 obtain ⟨hv0,hvg⟩:=fS h
 unfold v7 vt
 refine zq func114 U (by decide) U<|ae<|y6 (cs:=[.int .i64 0,.int .i64 0,.raw (.slice none 0 0),.int .i64 0]) Z4 U U<|fun i4=>ab U<|z6<|ae<|bg U<|za (yc U)<|ao je U Yi U U<|aI X5 U<|aa U<|za (bh v.toNat Zt Yh U U (by omega) hvg)<|ac isAgg77 Yh U U<|y6 (cs:=[.int .i64 0,.int .i64 0]) zeroValue77 U U<|fun i6=>y1 Yh U U U U U U .head U<|zf (yf (t:=6) U .head)<|z6<|zd<|zd<|ya (γ:=Bool) [0,4,6] (fun u=>[(21,.bool u)]) (fun u=>[(i4,.cells 54 [.int .i64 0,.int .i64 0,.raw (.slice none 0 0),.int .i64 0])]) (fun u=>u=decide (¬(0≤(aL f v).1∧0≤(aL f v).2))) ?_ (fun _ _ h=>h) ?_
 ·refine aO<|ao Zp U j6 U U<|ay j7 U<|ax U U<|aj U<|zo (s:=17) U (fun c4=>?_) (fun c4=>?_)
  ·refine z7 U U c4<|z7 U U c4<|z7 U U c4<|aq U c4 U<|z6 ?_
   exact ⟨_,de,aH,aD,by simp_all<;>omega⟩
  ·refine z8 U U c4<|ao Zp U j6 U U<|z8 U U c4<|ay j7 U<|z8 U U c4<|ax U U<|au U c4 U<|z6 ?_
   exact ⟨_,de,aH,aD,by simp_all<;>omega⟩
 ·rintro u hu
  refine zy U (fun cu=>?_) (fun cu=>?_)
  ·have hn:b4 f v=none:=by unfold b4;rw[if_neg (w4 (hu▸cu))]
   rw[hn]
   refine ae<|za (y5 (cps:=[]) (rs:=[.int .i64 0,.int .i64 0,.raw (.slice none 0 0),.int .i64 0]) BO U U U)<|y1 jv U U U U U U .head U<|ab U<|z6<|zi<|dI.c1t (y:=.bool _) U U ⟨_,.head⟩ Zk jv U ?_
   rfl
  ·have hy:0≤(aL f v).1∧0≤(aL f v).2:=by rw[hu] at cu;simpa using cu
   obtain ⟨i,b,h1,h2,h3⟩:=eH hy.1
   obtain ⟨q,x,h4,h5,h6⟩:∃(q:Nat) (x:aF),b.insts[q]?=some x∧x.dst=v∧(aL f v).2=q:=by
    rcases h3 with ⟨_,_,_,h4⟩|h3
    ·omega
    ·exact h3
   have hm:b4 f v=some x:=by unfold b4;rw[if_pos hy,h2,h6,Int.toNat_natCast,Int.toNat_natCast,h1];exact h4
   rw[hm]
   refine zg<|zd<|zw (fun j=>Nat.beq j 14) (by kernel_rfl) U (zh (.rest _))<|ak 0 U (gD U)<|ak 1 U (yc U)<|ak 2 U (bx je U jf U U)<|ak 3 U (bx jg U Z6 U U)<|ak 4 U (dx Zd U)<|ak 5 U (bx Zp U j6 U U)<|ak 6 U (b7 j7 U)<|ak 7 U (bh i jk Z0 U U h2 h1)<|ak 8 U (bx jj U Zo U U)<|ak 9 U (dx Zx U)<|ak 10 U (bx Zp U j6 U U)<|ak 11 U (b7 j7 U)<|ak 12 U (bh q jz jv U U h6 h4)<|ak 13 U (yr Zk jv U U)<|ym<|yi (i:=14) U (by kernel_rfl) (by kernel_rfl)<|y1 jv U U U U U U .head U<|z6<|yi (i:=15) U (by kernel_rfl) (by kernel_rfl)<|ab U<|z6<|yo (by kernel_rfl)<|zi<|dI.c1t (y:=.bool _) U U ⟨_,.head⟩ Zk jv U ?_
   rfl
end Go.Proofs.YtdilpodccjlkgaaGreatDoor
namespace Go.Proofs.YtdilpodccjlkgaaGreatDoor
open Go.Proofs.Tryz
open Go.Proofs Go.Lib Go.Shelf Go.RowKit
variable {E:World}
set_option maxRecDepth 20000
theorem uC {f:ad} {K:KS} {t pr:AV} {v:Int} (h:aZ f v=true) (hm:b4 f v=none):aK prog E 114 [v7 f K t pr,.int .i64 v] (.tup [.agg [.int .i64 0,.int .i64 0,.raw (.slice none 0 0),.int .i64 0],.bool false]):=by
 have:=nk (E:=E) (K:=K) (t:=t) (pr:=pr) h
 rw[hm] at this
 exact this
theorem uD {f:ad} {K:KS} {t pr:AV} {v:Int} (h:aZ f v=true) {y:aF} (hm:b4 f v=some y):aK prog E 114 [v7 f K t pr,.int .i64 v] (.tup [.agg (aP y),.bool true]):=by
 have:=nk (E:=E) (K:=K) (t:=t) (pr:=pr) h
 rw[hm] at this
 exact this
section
variable {f:ad} {K:KS} {t pr:AV} (hv:f.vars.length≤1000) (hK:KB f K)
include hv hK
theorem Gh {a b:Int} (ha:aJ f a) (hb:aJ f b) (c:Int):aK prog E 113 [wT (f.vars.length+1) K.l .any,.int .i64 a,.int .i64 b,.int .i64 c] (.bool (b5 f K a b c)):=p7 _ K.l .any (fW hv hK) (ed ha) (ed hb) c
set_option maxHeartbeats 4000000 in
theorem sE (hP:uB K.p) (x:aF) (hF:dg f x) (hc:18≤x.op∧x.op≤24):aK prog E 71 [v7 f K t pr,.agg (aP x)] (.bool (kB f K x)):=by
 have a0:aJ f (bc x)∧0<x.args.length:=by
  have h:=hF.cnt (k:=x.op) rfl
  have h2:0<x.args.length:=by
   obtain ⟨k,hk,e⟩:∃k:Nat,k≤6∧x.op=18+(k:Int):=⟨(x.op - 18).toNat,by omega,by omega⟩
   rw[h,e]
   have:k=0∨k=1∨k=2∨k=3∨k=4∨k=5∨k=6:=by omega
   rcases this with rfl|rfl|rfl|rfl|rfl|rfl|rfl<;>decide
  exact ⟨bv (hF.a0 h2),h2⟩
 have hV0:aZ f (bc x)=true:=by have:=hF.a0 a0.2;unfold aZ;simpa using ⟨this.2,this.1⟩
 have a1:∀{k:Int},x.op=k→1<([0,1,2,2,2,2,2,2,2,2,1,2,1,2,3,1,0,1,2,1,1,2,2,2,1,2,2][k.toNat]?).getD 0→aJ f (bC x)∧1<x.args.length:=fun e h=>⟨bv (hF.a1 (by rw[hF.cnt e];exact h)),by rw[hF.cnt e];exact h⟩
 have nn:aJ f (bQ f):=d5
 have hg0:=bn a0.2
 have hW:=rF (E:=E) (t:=t) (pr:=pr) hv hK hP x.op x.args
 have hM:=uC (E:=E) (K:=K) (t:=t) (pr:=pr) hV0
 have hM2:=fun y=>uD (E:=E) (K:=K) (t:=t) (pr:=pr) hV0 (y:=y)
 have hwi:=fun h1 h2 k=>mq (E:=E) (t:=t) (pr:=pr) hv hK x h1 a0.1 h2 k
 have flw:=fun a b c ha hb=>Gh (E:=E) hv hK (a:=a) (b:=b) ha hb c
 unfold v7 vt at *
 unfold wT at flw ⊢
 unfold wT at hW hM hM2 hwi
 refine zq func71 U (by decide) U<|ae<|y9 (cs:=_) U U U<|ab U<|z6<|zd<|ae<|bg U<|ao j5 U jy U U<|ay Z2 U<|ao j5 U j8 U U<|aI j9 U<|ze (hW) U<|z6<|zy U (fun cw=>?_) (fun cw=>?_)
 ·refine ae<|ab U<|z6<|zi<|zm (x:=.bool _) U ?_
  rw[kB,cw];rfl
 ·rw[kB,cw,Bool.false_or]
  refine zg<|ae<|ao j5 U j8 U U<|aI j9 U<|za (bh 0 wz j6 U U U hg0)<|ay j7 U<|ap U<|z6<|zd<|ae<|ao j5 U jy U U<|ay Z2 U<|z6<|zj<|ae<|ai U U<|ab U<|z6<|zu U (fun c18=>?_) (fun c18=>?_)
  ·have c18:x.op=18:=c18
   have h1:=a1 c18 (by decide)
   rw[if_pos c18]
   refine zd<|zw (fun j=>false) (by kernel_rfl) U (zh (.rest _))<|ak 0 U (gD U)<|ak 1 U (yc U)<|ak 2 U (bx je U Z8 U U)<|ak 3 U (yn (c:=.pf _) Zg U)<|ak 4 U (gD U)<|ak 5 U (yc U)<|ak 6 U (bx je U j6 U U)<|ak 7 U (b7 j7 U)<|ak 8 U (bx j5 U j8 U U)<|ak 9 U (dx j9 U)<|ak 10 U (bh 1 wz j6 U U U (bw h1.2))<|ak 11 U (b7 j7 U)<|ba 12 U<|ze (flw _ _ 0 nn h1.1) U<|z6<|ak 13 U (l6 U)<|qe (s:=35) U (fun c1=>?_) (fun c1=>?_)
   ·refine cR 14 U U U c1 (gD U)<|cR 15 U U U c1 (yc U)<|cR 16 U U U c1 (bx je U Z8 U U)<|cR 17 U U U c1 (yn (c:=.pf _) Zg U)<|cR 18 U U U c1 (bx j5 U j8 U U)<|cR 19 U U U c1 (dx j9 U)<|cR 20 U U U c1 (bh 1 wz j6 U U U (bw h1.2))<|cR 21 U U U c1 (b7 j7 U)<|cR 22 U U U c1 (dq U)<|ba 23 U<|z8 U U c1<|ze (flw _ _ (-1) h1.1 a0.1) U<|z6<|ak 24 U (ta U c1 U)<|ak 25 U (lT U)<|bY<|zi<|zm (x:=.bool _) U ?_
    exact jb (by simp_all)
   ·refine b9 14 U U U c1<|b9 15 U U U c1<|b9 16 U U U c1<|b9 17 U U U c1<|b9 18 U U U c1<|b9 19 U U U c1<|b9 20 U U U c1<|b9 21 U U U c1<|b9 22 U U U c1<|b9 23 U U U c1<|ak 24 U (qU U c1 U)<|ak 25 U (lT U)<|bY<|zi<|zm (x:=.bool _) U ?_
    exact jb (by simp_all)
  ·rw[if_neg (show ¬x.op=18 from c18)]
   refine ae<|ai U U<|ab U<|z6<|zu U (fun c19=>?_) (fun c19=>?_)
   ·rw[if_pos (show x.op=19 from c19)]
    unfold E4
    rcases hm:b4 f (bc x) with _|y
    ·refine ae<|bg U<|aa U<|ze (hM hm) U<|bR U<|za (yz (v:=.agg _) U U)<|bZ U U<|y6 (cs:=[.int .i64 0,.int .i64 0,.raw (.slice none 0 0),.int .i64 0]) Z4 U U<|fun i6=>y1 jv U U U U U U .head U<|zf (yf (t:=6) U .head)<|ab U<|z6<|zd<|zw (fun j=>false) (by kernel_rfl) U (zh (.rest _))<|ak 0 U (l6 U)<|ak 1 U (l6 U)<|b9 2 U U U U<|b9 3 U U U U<|b9 4 U U U U<|ak 5 U (qU U U U)<|ak 6 U (l6 U)<|cR 7 U U U U (gD U)<|cR 8 U U U U (yc U)<|cR 9 U U U U (bx je U Z8 U U)<|cR 10 U U U U (yn (c:=.pf _) Zg U)<|cR 11 U U U U (gD U)<|cR 12 U U U U (yc U)<|cR 13 U U U U (bx je U j6 U U)<|cR 14 U U U U (b7 j7 U)<|cR 15 U U U U (dq U)<|ba 16 U<|z8 U U U<|ze (flw _ _ (-1) nn a0.1) U<|z6<|ak 17 U (qU U U U)<|ak 18 U (lT U)<|bY<|zi<|zm (x:=.bool _) U ?_
     exact jb (by simp_all)
    ·refine ae<|bg U<|aa U<|ze (hM2 y hm) U<|bR U<|za (yz (v:=.agg _) U U)<|bZ U U<|y6 (cs:=[.int .i64 0,.int .i64 0,.raw (.slice none 0 0),.int .i64 0]) Z4 U U<|fun i6=>y1 jv U U U U U U .head U<|zf (yf (t:=6) U .head)<|ab U<|z6<|zd<|zw (fun j=>false) (by kernel_rfl) U (zh (.rest _))<|ak 0 U (l6 U)<|ak 1 U (l6 U)<|cR 2 U U U U (bx j5 U jy U U)<|cR 3 U U U U (b7 Z2 U)<|cR 4 U U U U (Gv.eqlI U U)<|ak 5 U (ta U U U)<|ak 6 U (l6 U)<|qe (s:=61) U (fun c2=>?_) (fun c2=>?_)
     ·refine b9 7 U U U c2<|b9 8 U U U c2<|b9 9 U U U c2<|b9 10 U U U c2<|b9 11 U U U c2<|b9 12 U U U c2<|b9 13 U U U c2<|b9 14 U U U c2<|b9 15 U U U c2<|b9 16 U U U c2<|ak 17 U (ta U c2 U)<|ak 18 U (lT U)<|bY<|zi<|zm (x:=.bool _) U ?_
      exact jb (by simp_all)
     ·refine cR 7 U U U c2 (gD U)<|cR 8 U U U c2 (yc U)<|cR 9 U U U c2 (bx je U Z8 U U)<|cR 10 U U U c2 (yn (c:=.pf _) Zg U)<|cR 11 U U U c2 (gD U)<|cR 12 U U U c2 (yc U)<|cR 13 U U U c2 (bx je U j6 U U)<|cR 14 U U U c2 (b7 j7 U)<|cR 15 U U U c2 (dq U)<|ba 16 U<|z8 U U c2<|ze (flw _ _ (-1) nn a0.1) U<|z6<|ak 17 U (qU U c2 U)<|ak 18 U (lT U)<|bY<|zi<|zm (x:=.bool _) U ?_
      exact jb (by simp_all)
   ·rw[if_neg (show ¬x.op=19 from c19)]
    refine ae<|ai U U<|ab U<|z6<|zu U (fun c20=>?_) (fun c20=>?_)
    ·rw[if_pos (show x.op=20 from c20)]
     refine zd<|zw (fun j=>false) (by kernel_rfl) U (zh (.rest _))<|ak 0 U (gD U)<|ak 1 U (yc U)<|ak 2 U (bx je U Z8 U U)<|ak 3 U (yn (c:=.pf _) Zg U)<|ak 4 U (gD U)<|ak 5 U (yc U)<|ak 6 U (bx je U j6 U U)<|ak 7 U (b7 j7 U)<|ak 8 U (dq U)<|ba 9 U<|ze (flw _ _ (-1) nn a0.1) U<|z6<|ak 10 U (l6 U)<|qe (s:=85) U (fun c3=>?_) (fun c3=>?_)
     ·refine b9 11 U U U c3<|b9 12 U U U c3<|b9 13 U U U c3<|b9 14 U U U c3<|b9 15 U U U c3<|b9 16 U U U c3<|b9 17 U U U c3<|b9 18 U U U c3<|b9 19 U U U c3<|b9 20 U U U c3<|ak 21 U (ta U c3 U)<|ak 22 U (lT U)<|bY<|zi<|zm (x:=.bool _) U ?_
      exact jb (by simp_all)
     ·refine cR 11 U U U c3 (gD U)<|cR 12 U U U c3 (yc U)<|cR 13 U U U c3 (bx je U Z8 U U)<|cR 14 U U U c3 (yn (c:=.pf _) Zg U)<|cR 15 U U U c3 (dq U)<|cR 16 U U U c3 (gD U)<|cR 17 U U U c3 (yc U)<|cR 18 U U U c3 (bx je U j6 U U)<|cR 19 U U U c3 (b7 j7 U)<|ba 20 U<|z8 U U c3<|ze (flw _ _ (-1) a0.1 nn) U<|z6<|ak 21 U (qU U c3 U)<|ak 22 U (lT U)<|bY<|zi<|zm (x:=.bool _) U ?_
      exact jb (by simp_all)
    ·rw[if_neg (show ¬x.op=20 from c20)]
     refine ae<|ai U U<|ab U<|z6<|zu U (fun c24=>?_) (fun c24=>?_)
     ·rw[if_pos (show x.op=24 from c24)]
      refine zd<|zw (fun j=>false) (by kernel_rfl) U (zh (.rest _))<|ak 0 U (gD U)<|ak 1 U (yc U)<|ak 2 U (bx je U Z8 U U)<|ak 3 U (yn (c:=.pf _) Zg U)<|ak 4 U (gD U)<|ak 5 U (yc U)<|ak 6 U (bx je U j6 U U)<|ak 7 U (b7 j7 U)<|ak 8 U (dq U)<|ba 9 U<|ze (flw _ _ 0 nn a0.1) U<|z6<|ak 10 U (l6 U)<|qe (s:=109) U (fun c4=>?_) (fun c4=>?_)
      ·refine cR 11 U U U c4 (gD U)<|cR 12 U U U c4 (yc U)<|cR 13 U U U c4 (bx je U Z8 U U)<|cR 14 U U U c4 (yn (c:=.pf _) Zg U)<|cR 15 U U U c4 (dq U)<|cR 16 U U U c4 (gD U)<|cR 17 U U U c4 (yc U)<|cR 18 U U U c4 (bx je U j6 U U)<|cR 19 U U U c4 (b7 j7 U)<|ba 20 U<|z8 U U c4<|ze (flw _ _ 64 a0.1 nn) U<|z6<|ak 21 U (ta U c4 U)<|ak 22 U (lT U)<|bY<|zi<|zm (x:=.bool _) U ?_
       exact jb (by simp_all)
      ·refine b9 11 U U U c4<|b9 12 U U U c4<|b9 13 U U U c4<|b9 14 U U U c4<|b9 15 U U U c4<|b9 16 U U U c4<|b9 17 U U U c4<|b9 18 U U U c4<|b9 19 U U U c4<|b9 20 U U U c4<|ak 21 U (qU U c4 U)<|ak 22 U (lT U)<|bY<|zi<|zm (x:=.bool _) U ?_
       exact jb (by simp_all)
     ·rw[if_neg (show ¬x.op=24 from c24)]
      obtain ⟨k,hk,e⟩:∃k:Nat,k≤2∧x.op=21+(k:Int):=⟨(x.op - 21).toNat,by omega,by omega⟩
      have h1:aJ f (bC x)∧1<x.args.length:=by
       have:k=0∨k=1∨k=2:=by omega
       rcases this with rfl|rfl|rfl
       ·exact a1 e (by decide)
       ·exact a1 e (by decide)
       ·exact a1 e (by decide)
      rw[show (x.op - 21).toNat=k by omega]
      refine zg<|ae<|bg U<|ac Zk jv U U<|ze (hwi h1.2 h1.1 k hk (.inr e)) U<|ab U<|z6<|zi<|zm (x:=.bool _) U ?_
      rfl
end
end Go.Proofs.YtdilpodccjlkgaaGreatDoor
