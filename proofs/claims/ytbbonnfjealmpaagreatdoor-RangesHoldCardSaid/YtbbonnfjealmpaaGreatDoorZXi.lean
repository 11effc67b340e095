/- The order in which the document gives pis: the tree's, from the first block on, each block once. Of single programs. -/
import Derived.Test.YtbbonnfjealmpaaGreatDoorZXh
import Derived.Test.YtbbonnfjealmpaaGreatDoorZXg
import Derived.Test.YtbbonnfjealmpaaGreatDoorZXb
import Derived.Test.YtbbonnfjealmpaaGreatDoorZXa
import Derived.Test.YtbbonnfjealmpaaGreatDoorZXd
import Derived.Test.YtbbonnfjealmpaaGreatDoorZXe
set_option linter.unusedVariables false
set_option linter.unusedSimpArgs false
set_option linter.unusedSectionVars false
namespace Go.Proofs.YtbbonnfjealmpaaGreatDoor
section
open Go.Proofs.Tryz
def rF (f:ab):List aO→Int→aO:=ly f (pB f)
def cT (f:ab):List Int:=(f8 f).map (·.1)
def kz (f:ab) (n:Nat) (v:Int):Option aO:=if 4≤n∧(aE f v).2=-1 then some (fK (Cp f v)) else none
def kl (f:ab) (l:List aO) (v:Int) (phi:Bool) (how:Int):aO:=
 if how=2 then bR (lv l v) (rF f l v) else if how=1∧phi=true then vE (fK (Cp f v)) (lv l v) (rF f l v) else bU (lv l v) (rF f l v)
def mH (f:ab) (how:Int) (s:List aO × Bool) (q:Int × Bool):List aO × Bool:=(s.1.set q.1.toNat (kl f s.1 q.1 q.2 how),!decide (kl f s.1 q.1 q.2 how=lv s.1 q.1)||s.2)
def lA (f:ab) (how:Int) (qs:List (Int × Bool)) (s:List aO × Bool):List aO × Bool:=qs.foldl (mH f how) s
theorem wT (f:ab) (how:Int) (qs:List (Int × Bool)) (q:Int × Bool) (s:List aO × Bool):lA f how (qs++[q]) s=mH f how (lA f how qs s) q:=by unfold lA;rw[List.foldl_append];rfl
def EE (f:ab):Prop:=∀q∈f8 f,0≤q.1∧q.1<f.v.length∧0≤(aE f q.1).1∧(q.2=true↔(aE f q.1).2=-1)
theorem uz {f:ab} (hf:uj f) (hm:EE f):fo f.v.length (rF f) (cT f):=AO hf _ fun v hv=>by
 obtain ⟨q,hq,rfl⟩:=List.mem_map.1 hv;have:=hm q hq;exact ⟨this.1,this.2.1⟩
theorem qW (f:ab) (i:Nat) (v:Int) (t:aO) (h:kz f i v=some t):bw t:=by
 unfold kz at h;split at h
 ·cases h;exact o7 _
 cases h
def K6 (how:Int) (n:Nat):Prop:=how=if 4≤n then 1 else 0
theorem Ga {f:ab} (hm:EE f) {how:Int} {n:Nat} (hh:K6 how n) (l:List aO) {q:Int × Bool} (hq:q∈f8 f):kl f l q.1 q.2 how=gQ (rF f) (kz f n) l q.1:=by
 obtain ⟨_,_,_,h⟩:=hm q hq;unfold kl gQ kz;unfold K6 at hh;subst hh
 by_cases h4:4≤n
 ·rw[if_pos h4,if_neg (by decide)]
  by_cases c:(aE f q.1).2=-1
  ·rw[if_pos ⟨rfl,h.2 c⟩,if_pos ⟨h4,c⟩]
  rw[if_neg (fun e=>c (h.1 e.2)),if_neg (fun e=>c e.2)]
 rw[if_neg h4,if_neg (by decide),if_neg (fun e=>by simp at e),if_neg (fun e=>h4 e.1)]
theorem Bf {f:ab} (hR:fo f.v.length (rF f) (cT f)) (hm:EE f) {how:Int} {n:Nat} (hh:K6 how n):∀(qs:List (Int × Bool)) (l:List aO) (c:Bool),(∀q∈qs,q∈f8 f)→vF f.v.length l →
  vF f.v.length (lA f how qs (l,c)).1∧(lA f how qs (l,c)).1=gR (rF f) (kz f n) (qs.map (·.1)) l∧((lA f how qs (l,c)).2=true↔c=true∨gR (rF f) (kz f n) (qs.map (·.1)) l≠l)
 |[],l,c,_,hl=>⟨hl,rfl,by simp[lA,gR]⟩
 |q::qs,l,c,hs,hl=>by
  have hq:=hs q (.head _);have hqv:q.1∈cT f:=List.mem_map.2 ⟨q,hq,rfl⟩;obtain ⟨h1,h2,h3⟩:=py hR (qW f n) hl hqv;have hn:=Ga hm hh l hq;obtain ⟨g1,g2,g3⟩:=Bf hR hm hh qs (gm (rF f) (kz f n) l q.1) (!decide (gQ (rF f) (kz f n) l q.1=lv l q.1)||c) (fun x hx=>hs x (.tail _ hx)) h1;have e:lA f how (q::qs) (l,c)=lA f how qs (gm (rF f) (kz f n) l q.1,!decide (gQ (rF f) (kz f n) l q.1=lv l q.1)||c):=by
   show lA f how qs (mH f how (l,c) q)=_;unfold mH gm;dsimp only;rw[hn]
  have e2:gR (rF f) (kz f n) ((q::qs).map (·.1)) l=gR (rF f) (kz f n) (qs.map (·.1)) (gm (rF f) (kz f n) l q.1):=rfl;rw[e,e2];refine ⟨g1,g2,?_⟩;rw[g3];obtain ⟨k1,k2,k3⟩:=m7 hR (qW f n) (qs.map (·.1)) (gm (rF f) (kz f n) l q.1) (fun x hx=>by obtain ⟨y,hy,rfl⟩:=List.mem_map.1 hx;exact List.mem_map.2 ⟨y,hs y (.tail _ hy),rfl⟩) h1
  by_cases c0:gQ (rF f) (kz f n) l q.1=lv l q.1
  ·have hr:=hR.rng q.1 hqv;have e3:=oJ (rule:=rF f) (wid:=kz f n) (l:=l) (v:=q.1) hr.1 (by rw[hl.ok.1];omega) c0;rw[e3,wa c0];simp
  have h4:=h2.resolve_left c0;rw[wb c0];simp only[Bool.not_false,Bool.true_or,true_or,true_iff];refine .inr fun h=>?_;rw[h] at k2;omega
theorem uA {f:ab} (hR:fo f.v.length (rF f) (cT f)):∀(qs:List (Int × Bool)) (l:List aO) (c:Bool),(∀q∈qs,q∈f8 f)→eh f.v.length l →
  eh f.v.length (lA f 2 qs (l,c)).1∧(lA f 2 qs (l,c)).1=(qs.map (·.1)).foldl (fh (rF f)) l
 |[],l,c,_,hl=>⟨hl,rfl⟩
 |q::qs,l,c,hs,hl=>by
  have hq:=hs q (.head _);have hqv:q.1∈cT f:=List.mem_map.2 ⟨q,hq,rfl⟩;have h1:=lw hR hl hqv;exact uA hR qs (fh (rF f) l q.1) (!decide (kl f l q.1 q.2 2=lv l q.1)||c) (fun x hx=>hs x (.tail _ hx)) h1
theorem Iq {f:ab} (hR:fo f.v.length (rF f) (cT f)) (how:Int):∀(qs:List (Int × Bool)) (s:List aO × Bool),(∀q∈qs,q∈f8 f)→eh f.v.length s.1→eh f.v.length (lA f how qs s).1
 |[],s,_,hl=>hl
 |q::qs,s,hs,hl=>by
  have hq:=hs q (.head _);have hqv:q.1∈cT f:=List.mem_map.2 ⟨q,hq,rfl⟩;have hr:=hR.rng q.1 hqv;refine Iq hR how qs _ (fun x hx=>hs x (.tail _ hx)) ⟨by unfold mH;dsimp only;rw[List.length_set];exact hl.1,fun u hu=>?_⟩;unfold mH;dsimp only;rw[m6 hr.1 (by rw[hl.1];omega) _ hu];have h1:=hl.2 q.1 hr.1;have h2:=hR.ok s.1 q.1 hl.1 hl.2 hqv;split
  ·unfold kl;split
   ·exact fL h1 h2
   split
   ·exact Eu (o7 _) h1 h2
   exact o6 h1 h2
  exact hl.2 u hu
def fT (f:ab):Nat→List aO
 |0=>fB f
 |i+1=>gR (rF f) (kz f (i+1)) (cT f) (fT f i)
structure Bg (f:ab) (K:Nat):Prop where
 still:fT f (K+1)=fT f K
 moves:∀i,i<K→fT f (i+1)≠fT f i
def x9 (f:ab) (K:Nat):List aO:=(cT f).foldl (fh (rF f)) ((cT f).foldl (fh (rF f)) (fT f K))
theorem Di (f:ab) (v:Int):bw (iX f v)∧nrm (iX f v):=by
 unfold iX;split
 ·refine ⟨o7 _,?_⟩;unfold fK nrm
  (repeat' split)<;>exact fun h=>by revert h;decide
 exact ⟨⟨by decide,by decide⟩,fun h=>absurd h (by decide)⟩
theorem wU {f:ab} {u:Int} (hu:0≤u):lv (fB f) u=if u<f.v.length then jH f u else fD:=by
 unfold lv fB;rw[w3]
 by_cases c:u<f.v.length
 ·rw[if_pos c,List.getElem?_range (by omega)];simp only[Option.map_some,Option.getD_some];rw[we hu]
 rw[if_neg c,List.getElem?_eq_none (by simp;omega)];rfl
theorem Ir (f:ab):vF f.v.length (fB f):=by
 have key:∀u:Int,0≤u→bw (lv (fB f) u)∧nrm (lv (fB f) u):=fun u hu=>by
  rw[wU hu];have h0:bw fD∧nrm fD:=⟨kY,fun _=>rfl⟩;split
  ·unfold jH;split
   ·exact Di f u
   exact h0
  exact h0
 exact ⟨⟨l7 f,fun u hu=>(key u hu).1⟩,fun u hu=>(key u hu).2⟩
theorem l9 {f:ab} (hR:fo f.v.length (rF f) (cT f)):∀i,vF f.v.length (fT f i)
 |0=>Ir f
 |i+1=>(m7 hR (qW f (i+1)) (cT f) _ (fun _ h=>h) (l9 hR i)).1
theorem Bh {p:Nat→Prop}:∀(n:Nat),p n→∃k,k≤n∧p k∧∀i,i<k→¬p i
 |n,h=>by
  by_cases c:∃m,m<n∧p m
  ·obtain ⟨m,hm,hp⟩:=c;obtain ⟨k,h1,h2,h3⟩:=Bh m hp;exact ⟨k,by omega,h2,h3⟩
  exact ⟨n,Nat.le_refl _,h,fun i hi hp=>c ⟨i,hi,hp⟩⟩
theorem Is {f:ab} (hR:fo f.v.length (rF f) (cT f)):∃K,Bg f K:=by
 have key:∀i,(∃j,j<i∧fT f (j+1)=fT f j)∨i≤lx (fT f i):=fun i=>by
  induction i with
  |zero=>exact .inr (qw _)
  |succ i ih=>
   rcases ih with ⟨j,hj,h⟩|h
   ·exact .inl ⟨j,by omega,h⟩
   rcases (m7 hR (qW f (i+1)) (cT f) _ (fun _ h=>h) (l9 hR i)).2.2 with h2|h2
   ·exact .inl ⟨i,by omega,h2⟩
   right
   show _≤lx (gR (rF f) (kz f (i+1)) (cT f) (fT f i));omega
 rcases key (f.v.length*18446744073709551616+1) with ⟨j,_,h⟩|h
 ·obtain ⟨k,_,h1,h2⟩:=Bh (p:=fun j=>fT f (j+1)=fT f j) j h;exact ⟨k,h1,h2⟩
 have:=KU (l9 hR (f.v.length*18446744073709551616+1)).ok;omega
theorem qX {f:ab} (hR:fo f.v.length (rF f) (cT f)) {K:Nat} (h:Bg f K):eh f.v.length (x9 f K)∧wN (rF f) (cT f) (x9 f K):=by
 have h1:=l9 hR K;have h2:=FY (rJ hR (qW f (K+1)) (cT f) _ (fun _ h=>h) h1 h.still);obtain ⟨g1,g2⟩:=oI hR (cT f) _ (fun _ h=>h) h1.ok h2;exact oI hR (cT f) _ (fun _ h=>h) g1 g2
theorem nh {f:ab} (hR:fo f.v.length (rF f) (cT f)) {u:Int} (hu:0≤u) (hn:u ∉ cT f):∀(us:List Int) (l:List aO),(∀x∈us,x∈cT f)→eh f.v.length l→lv (us.foldl (fh (rF f)) l) u=lv l u
 |[],_,_,_=>rfl
 |x::us,l,hs,hl=>by
  have hx:=hs x (.head _);have hr:=hR.rng x hx;rw[List.foldl_cons,nh hR hu hn us _ (fun y hy=>hs y (.tail _ hy)) (lw hR hl hx)];unfold fh;rw[m6 hr.1 (by rw[hl.1];omega) _ hu,if_neg (fun e:u=x=>hn (by rw[e];exact hx))]
theorem wW {f:ab} (hR:fo f.v.length (rF f) (cT f)) {n:Nat} {u:Int} (hu:0≤u) (hn:u ∉ cT f):∀(us:List Int) (l:List aO),(∀x∈us,x∈cT f)→vF f.v.length l→lv (gR (rF f) (kz f n) us l) u=lv l u
 |[],_,_,_=>rfl
 |x::us,l,hs,hl=>by
  have hx:=hs x (.head _);have hr:=hR.rng x hx;show lv (gR (rF f) (kz f n) us (gm (rF f) (kz f n) l x)) u=_;rw[wW hR hu hn us _ (fun y hy=>hs y (.tail _ hy)) (py hR (qW f n) hl hx).1];unfold gm;rw[m6 hr.1 (by rw[hl.ok.1];omega) _ hu,if_neg (fun e:u=x=>hn (by rw[e];exact hx))]
theorem Gb {f:ab} (hR:fo f.v.length (rF f) (cT f)) {u:Int} (hu:0≤u) (hn:u ∉ cT f) (K:Nat):lv (x9 f K) u=lv (fB f) u:=by
 have hk:∀i,lv (fT f i) u=lv (fB f) u:=fun i=>by
  induction i with
  |zero=>rfl
  |succ i ih=>rw[←ih];exact wW hR hu hn (cT f) _ (fun _ h=>h) (l9 hR i)
 have h1:=nh hR hu hn (cT f) (fT f K) (fun _ h=>h) (l9 hR K).ok;have h2:eh f.v.length ((cT f).foldl (fh (rF f)) (fT f K)):=by
  have:∀(us:List Int) (l:List aO),(∀x∈us,x∈cT f)→eh f.v.length l→eh f.v.length (us.foldl (fh (rF f)) l):=fun us=>by
   induction us with
   |nil=>intro l _ hl;exact hl
   |cons x us ih=>intro l hs hl;exact ih _ (fun y hy=>hs y (.tail _ hy)) (lw hR hl (hs x (.head _)))
  exact this (cT f) _ (fun _ h=>h) (l9 hR K).ok
 unfold x9;rw[nh hR hu hn (cT f) _ (fun _ h=>h) h2,h1,hk K]
end
section
open Go.Proofs.Tryz
open Go.Proofs
theorem On {I:G} {F:List (Nat × Obj)} {E w:World} {i k m:Nat} {T:TypeId} {rows:List (List AV)} (hk:∀r∈rows,r.length=k) (hk0:0<k) (hm:rows.length=m) (h:iT I [(i,.u k T rows.flatten)] F E w) :
  ∃J L,I.le J∧cO I [(i,.u k T rows.flatten)] L∧SL I.k (L++F) E w∧(∀y∈L,J.k y.1=some y.2)∧iT J [] F E w∧∀v,bW I (.j i m) v→bW J (.fro k rows) v:=by
 obtain ⟨ht,L,hL,hS⟩:=h;have hL0:=hL;obtain ⟨A,B,hp,⟨b,c,n,vs,e1,hvs,hvc,hown⟩,hB⟩:=hL;have hB:B=[]:=hB;simp only at e1;rw[hB,w8] at hp;subst hp;have hflat:rows.flatten.length=rows.length*k:=by
  clear hvs hm hL0;induction rows with
  |nil=>simp
  |cons r rows ih=>simp only[List.flatten_cons,qz,List.length_cons,ih (fun r h=>hk r (by simp[h])),hk r (by simp),Nat.add_mul];omega
 have hnm:n=m:=by
  have h5:=hown.1;have h6:=hvs.length;have:n*k=m*k:=by rw[←hm];omega
  exact Nat.eq_of_mul_eq_mul_right hk0 this
 subst hnm;obtain ⟨h5,h6,h7⟩:=hown;rcases h7 with ⟨ea,rfl,rfl⟩|⟨b',junk,ea,rfl,hj⟩
 ·refine ⟨I,[],.refl _,hL0,hS,fun y hy=>(by cases hy),⟨ht,[],rfl,by simpa using hS⟩,?_⟩;rintro v ⟨b2,c2,e2,rfl⟩;rw[e1] at e2;simp only[Option.some.injEq,Prod.mk.injEq] at e2;obtain ⟨rfl,rfl⟩:=e2;have h0:rows=[]:=w6 (by omega);subst h0;exact ⟨adr b,n,0,rfl,hm.symm,h6,fun _=>rfl,trivial⟩
 cases b with
 |none=>simp[adr] at ea
 |some b=>
  simp[adr] at ea;subst ea;obtain ⟨hl,hS3⟩:=SL.freeze (by simpa using hS:SL I.k ((b,.cells (vs++junk).toArray T (0,0))::F) E w)
  let J:G:=⟨I.k.put b (.cells (vs++junk).toArray T (0,0)),I.h⟩
  have hle:I.le J:=⟨hl,fun _ _ h=>h⟩;have hb:J.k b=some (.cells (vs++junk).toArray T (0,0)):=bT.put_same _ _ _;refine ⟨J,_,hle,hL0,hS,fun y hy=>(by rw[List.mem_singleton.1 hy];exact hb),⟨ht,[],U,by simpa using hS3⟩,?_⟩;rintro v ⟨b2,c2,e2,rfl⟩;rw[e1] at e2;simp only[Option.some.injEq,Prod.mk.injEq] at e2;obtain ⟨rfl,rfl⟩:=e2;refine ⟨adr (some b),n,c,U,hm.symm,h6,fun h=>by simp[adr] at h,RepR.of_flat hb rows vs 0 hk (RepL.mono hle _ _ hvs) fun i u hu=>?_⟩;rw[Nat.zero_mul,Nat.zero_add,List.getElem?_toArray,List.getElem?_append_left (List.getElem?_eq_some_iff.1 hu).1];exact hu
theorem aX.lend {P:Program} {E:World} {f:FuncId} {ars ars':List AV} {x:AV} {i m k:Nat} {T:TypeId} {rows:List (List AV)} (hk:∀r∈rows,r.length=k) (hk0:0<k) (hm:rows.length=m)
  (has:∀I J:G,I.le J→(∀v,bW I (.j i m) v→bW J (.fro k rows) v)→∀vs,RepL I ars vs→RepL J ars' vs) (hx:∀(I J:G) v,bW J x v→bW I x v)
  (h:aS P E f ars' x):aX P E f ars [(i,.u k T rows.flatten)] fun y O=>y=x∧O=[(i,.u k T rows.flatten)]:=fun I F w vs h1 h2=>by
 obtain ⟨J,L,hle,hL,hS,hf,hJ,hv⟩:=On hk hk0 hm h2;refine (h J F w vs (has I J hle hv vs h1) hJ).mono fun v w' ⟨J2,y,O',a,b,c,d⟩=>?_;have d:y=x:=d;subst d;obtain ⟨_,L',_,hS'⟩:=c;refine ⟨I,y,_,.refl _,hx I J2 v b,⟨h2.1,L,hL,?_⟩,U,U⟩;refine ⟨hS'.os,hS'.output,hS'.tape,fun b o hb=>hS'.pers b o (a.k b o (hle.k b o hb)),fun z hz=>?_,hS.nodup,hS.apart,hS.base,hS.flat,hS.oflat⟩;rcases List.mem_append.1 hz with hz|hz
 ·exact hS'.pers _ _ (a.k _ _ (hf z hz))
 exact hS'.j z (List.mem_append_right _ hz)
theorem K7 (l:List aO):(l.map bM).flatten=lC l:=by
 unfold lC fu.av;rw[List.flatMap_def];rfl
theorem It {I J:G} {r:aO} {v:Value} (h:bW J (.agg (bM r)) v):bW I (.agg (bM r)) v:=by
 obtain ⟨vs,rfl,a,_,rfl,h1,b,_,rfl,h2,h3⟩:=h;exact ⟨_,rfl,a,_,rfl,h1,b,_,rfl,h2,h3⟩
end
section
open Go.Proofs.Tryz
open Go.Proofs Go.Lib Go.Shelf Go.RowKit
variable {E:World}
set_option maxRecDepth 20000
theorem aX.now {P:Program} {E:World} {f:FuncId} {ars:List AV} {O O0:OL} {x:AV} (h:aX P E f ars O fun y O'=>y=x∧Left O' O0):aX P E f ars O fun y O'=>y=x∧O'=O0:=
 (aX.exact (γ:=Unit) (x:=fun _=>x) (Mq0:=fun _=>O0) (p:=fun _=>True) (h.mono fun _ _ h=>⟨(),h.1,h.2,trivial⟩)).mono fun _ _ ⟨_,h1,h2,_⟩=>⟨h1,h2⟩
theorem pF {f:ab} (hF:mx f):EE f:=by
 rintro ⟨v,p⟩ hq;obtain ⟨b,hb,hc⟩:=qT.1 hq;obtain ⟨i,hi⟩:=List.mem_iff_getElem?.1 hb;obtain ⟨hPh,hIn,_⟩:=hF.shaped.2.2.2.2.2 b hb;dsimp only;rcases hc with ⟨rfl,q,hqb,rfl⟩|⟨rfl,h0,x,hx,rfl⟩
 ·obtain ⟨h0,h1⟩:=iO (hPh q hqb).1;have hm:((i:Int),(-1:Int))∈aZ f q.dst:=de.2 ⟨i,b,hi,d8.2 (.inl ⟨q,hqb,rfl,rfl⟩)⟩;have ho:=(hF.once q.dst.toNat (by omega)).1;rw[we h0] at ho;rw[lz ho hm];exact ⟨h0,h1,by dsimp only;omega,by simp⟩
 have h1:x.dst<f.v.length:=by
  rcases (fG (hIn x hx)).dst with ⟨_,h⟩|⟨_,_,h⟩
  ·omega
  exact (iO h).2
 obtain ⟨k,hk⟩:=List.mem_iff_getElem?.1 hx;have hm:((i:Int),(k:Int))∈aZ f x.dst:=de.2 ⟨i,b,hi,d8.2 (.inr ⟨k,x,hk,rfl,rfl⟩)⟩;have ho:=(hF.once x.dst.toNat (by omega)).1;rw[we h0] at ho;rw[lz ho hm];exact ⟨h0,h1,by dsimp only;omega,by dsimp only;constructor;(intro h;cases h);(intro h;omega)⟩
theorem Bi {f:ab} (hF:mx f) (hN:∀b∈f.q,∀x∈b.s,aY x.num):uj f where
 args:=fun b hb x hx v hv=>(iO ((fG ((hF.shaped.2.2.2.2.2 b hb).2.1 x hx)).args v hv)).1
 pargs:=fun b hb p hp v hv=>by
  obtain ⟨_,_,_,hpa,_⟩:=(hF.shaped.2.2.2.2.2 b hb).1 p hp;exact (iO (List.all_eq_true.1 hpa v hv)).1
 bool:=hF.bool
 two:=fun b hb x hx=>by
  have:=(fG ((hF.shaped.2.2.2.2.2 b hb).2.1 x hx)).len
  constructor
  ·intro h;rw[this,h,Bc];decide
  intro h;rw[this,h,Bd];decide
 num:=hN
theorem Gc {I J:G} {i m:Nat} {Xq:AV} (hle:I.le J) (hv:∀v,bW I (.j i m) v→bW J Xq v) (f:ab) (chk:List Bool) {v:Value} (h:bW I (ki f chk (.j i m)) v):bW J (ki f chk Xq) v:=by
 obtain ⟨b,off,vs,e,⟨v1,_,rfl,r1,v2,_,rfl,r2,v3,_,rfl,r3,v4,_,rfl,r4,v5,_,rfl,r5,v6,_,rfl,r6,rfl⟩,h2⟩:=h;exact ⟨b,off,_,e,⟨v1,_,rfl,r1.mono hle,v2,_,rfl,r2.mono hle,v3,_,rfl,r3.mono hle,v4,_,rfl,r4.mono hle,v5,_,rfl,r5.mono hle,v6,_,rfl,hv _ r6,rfl⟩,fun j u hj=>(h2 j u hj).mono hle.k⟩
theorem Gd (f:ab) (hF:mx f) (l:List aO) (hl:eh f.v.length l) (v:Nat) (hv:v<f.v.length) (hm:0≤(aE f v).1) (phi:Bool) (how:Int) :
  aS prog E 120 [ki f (k4 f) (.fro 2 (l.map bM)),.i v,.bool phi,.i how] (.agg (bM (kl f l v phi how))):=by
 have hS:=hF.shaped;have hvr:=aX.ofEmpty (Dg (E:=E) f hF l (k4 f) (uu f) (.fro 2 (l.map bM)) (i:=0) (HL:=xW) (fun ha=>M2 f hS (k4 f) l hl.1 0 xW ha) hl.2 v hv hm);rw[Ip hS hv hm hF.once] at hvr;have hll:=hl.1;have hty:Cp f v=f.v[v].ty:=by unfold Cp;rw[show ((v:Int).toNat)=v from rfl,qt hv];rfl
 have hlv:l[v]?=some (lv l v):=Dc (l:=l) (a:=(v:Int)) (by omega);refine zm func120 U (by decide) U<|Z<|zp (cs:=[.i 0,.i 0]) Za U U<|fun i8=>Y<|za<|y3 (γ:=Nat × Nat) [0,1,2,3,8] (fun z=>[(9,.po z.1 0),(10,.po z.2 0)]) (fun z=>[(z.1,.cells 63 (bM (lv l v))),(z.2,.cells 63 (bM (rF f l v))),(i8,.cells 63 [.i 0,.i 0])]) (fun z=>True) ?_ (fun _ _ h=>h) ?_
 ·refine zn (fun j=>false) (by kernel_rfl) U (zk (.rest _))<|D 0 U (nT U)<|D 1 U (q5 U)<|D 2 U (dk Zq U Xm U U)<|D 3 U (gJ isAgg40 U)<|D 4 U (dC U)<|D 5 U (bD v Yo j8 U U U hlv)<|D 6 U (yj jw j8 U U)<|D 7 U (nT U)<|D 8 U (dC U)<|bJ.three (i:=9) (j:=10) (m:=11) U U U (by kernel_rfl) ?_ ?_ ?_
  ·refine zb (hvr) U<|Y<|yq (i:=10) (j:=11) U U (by kernel_rfl) ?_ ?_
   ·refine zp (cs:=[.i 0,.i 0]) Za U U<|fun i9=>Y<|bp 11 U<|zp (cs:=[.i 0,.i 0]) Za U U<|fun i10=>Y<|bp 12 U<|zi j8 U U U U U U .t1 U<|Y<|bp 13 U<|zi j8 U U U U U U .head U<|cC .t2<|cC .t1<|cC .t2<|Y<|dS ?_;exact ⟨(i9,i10),lf,cV,aJ,trivial⟩
   refine zp (cs:=[.i 0,.i 0]) Za U U<|fun i10=>Y<|bp 10 U<|zp (cs:=[.i 0,.i 0]) Za U U<|fun i9=>Y<|bp 12 U<|zi j8 U U U U U U .head U<|Y<|bp 13 U<|zi j8 U U U U U U .t1 U<|Y<|dS ?_;exact ⟨(i9,i10),lf,cV,aJ,trivial⟩
  ·refine zp (cs:=[.i 0,.i 0]) Za U U<|fun i9=>Y<|yq (i:=9) (j:=11) U U (by kernel_rfl) ?_ ?_
   ·refine zb (hvr) U<|Y<|bp 11 U<|zp (cs:=[.i 0,.i 0]) Za U U<|fun i10=>Y<|bp 12 U<|zi j8 U U U U U U .t1 U<|Y<|bp 13 U<|zi j8 U U U U U U .head U<|cC .t2<|cC .t1<|cC .t2<|Y<|dS ?_;exact ⟨(i9,i10),lf,cV,aJ,trivial⟩
   refine zp (cs:=[.i 0,.i 0]) Za U U<|fun i10=>Y<|bp 9 U<|zb (hvr) U<|Y<|bp 12 U<|zi j8 U U U U U U .t1 U<|Y<|bp 13 U<|zi j8 U U U U U U .head U<|cC .t2<|cC .t1<|cC .t2<|Y<|dS ?_;exact ⟨(i9,i10),lf,cV,aJ,trivial⟩
  refine zp (cs:=[.i 0,.i 0]) Za U U<|fun i10=>Y<|yq (i:=9) (j:=10) U U (by kernel_rfl) ?_ ?_
  ·refine zb (hvr) U<|Y<|bp 10 U<|zp (cs:=[.i 0,.i 0]) Za U U<|fun i9=>Y<|bp 12 U<|zi j8 U U U U U U .head U<|Y<|bp 13 U<|zi j8 U U U U U U .t1 U<|Y<|dS ?_;exact ⟨(i9,i10),lf,cV,aJ,trivial⟩
  refine zp (cs:=[.i 0,.i 0]) Za U U<|fun i9=>Y<|bp 9 U<|zb (hvr) U<|Y<|bp 12 U<|zi j8 U U U U U U .head U<|Y<|bp 13 U<|zi j8 U U U U U U .t1 U<|Y<|dS ?_;exact ⟨(i9,i10),lf,cV,aJ,trivial⟩
 rintro ⟨i9,i10⟩ _;refine za<|zd<|Z<|C U<|au U U<|ah U<|Y<|zh U (fun c2=>?_) (fun c2=>?_)
 ·refine Z<|X (qb jw j8 U ⟨_,.head⟩ U)<|X (qb jw j8 U ⟨_,.t1⟩ U)<|zb (pe _ _) U<|zi j8 U U U U U U .t2 U<|Y<|zf<|yi U ⟨_,.t2⟩ jw j8 U ?_;rw[kl,if_pos c2];rfl
 refine za<|y3 (γ:=Bool) [0,1,8,9,10] (fun u=>[(27,.bool u)]) (fun u=>[(i9,.cells 63 (bM (lv l v))),(i10,.cells 63 (bM (rF f l v))),(i8,.cells 63 [.i 0,.i 0])]) (fun u=>u=decide (how=1∧phi=true)) ?_ (fun _ _ h=>h) ?_
 ·refine bZ<|C U<|au U U<|aw U<|zo (s:=30) U (fun c1=>?_) (fun c1=>?_)
  ·refine M U U c1<|aw U<|aA U c1 U<|ah U<|Y ?_;exact ⟨_,lf,aN,aJ,by simp_all⟩
  refine H U U c1<|ay U c1 U<|ah U<|Y ?_;exact ⟨_,lf,aN,aJ,by simp_all⟩
 rintro u hu;subst hu;refine zh U (fun c1=>?_) (fun c1=>?_)
 ·refine za<|zn (fun j=>Nat.beq j 12) (by kernel_rfl) U (zk (.r (.r (.rest _))))<|D 0 U (nT U)<|D 1 U (q5 U)<|D 2 U (dk Zq U jk U U)<|D 3 U (dk jf U Zs U U)<|D 4 U (gJ Y4 U)<|D 5 U (dC U)<|D 6 U (bD v Z7 Yc U U U (qt hv))<|D 7 U (dk Zr U X5 U U)<|D 8 U (d9 Xh U)<|D 9 U (qb jw j8 U ⟨_,.head⟩ U)<|D 10 U (qb jw j8 U ⟨_,.t1⟩ U)<|bp 11 U<|zb (MY f.v[v].ty (lv l v) (rF f l v)) U<|Y<|y4<|yg (i:=12) U (by kernel_rfl) (by kernel_rfl)<|zi j8 U U U U U U .t2 U<|Y<|y8 (by kernel_rfl)<|zf<|yi U ⟨_,.t2⟩ jw j8 U ?_;rw[kl,if_neg c2,if_pos c1,hty];rfl
 refine zc<|Z<|X (qb jw j8 U ⟨_,.head⟩ U)<|X (qb jw j8 U ⟨_,.t1⟩ U)<|zb (D4 _ _) U<|zi j8 U U U U U U .t2 U<|Y<|zf<|yi U ⟨_,.t2⟩ jw j8 U ?_;rw[kl,if_neg c2,if_neg c1];rfl
theorem Dj (f:ab) (hF:mx f) (l:List aO) (hl:eh f.v.length l) (i:Nat) (T:TypeId) (v:Nat) (hv:v<f.v.length) (hm:0≤(aE f v).1) (phi:Bool) (how:Int) :
  aX prog E 120 [ki f (k4 f) (.j i f.v.length),.i v,.bool phi,.i how] [(i,.u 2 T (lC l))] (mw i (.u 2 T (lC l)) (.agg (bM (kl f l v phi how)))):=by
 rw[←K7];refine aX.lend (m:=f.v.length) (fun r hr=>by obtain ⟨z,_,rfl⟩:=List.mem_map.1 hr;rfl) (by decide) (by rw[w2];exact hl.1) (fun I J hle hv vs h=>?_) (fun I J v h=>It h) (Gd f hF l hl v hv hm phi how);obtain ⟨v1,us,rfl,r1,r2⟩:=h;exact ⟨v1,us,rfl,Gc hle hv f (k4 f) r1,r2.mono hle⟩
theorem Ge (f:ab) (hF:mx f) (l:List aO) (hl:eh f.v.length l) (i:Nat) (T:TypeId) (v:Nat) (hv:v<f.v.length) (hm:0≤(aE f v).1) (phi:Bool) (how:Int) :
  aX prog E 80 [ki f (k4 f) (.j i f.v.length),.i v,.bool phi,.i how] [(i,.u 2 T (lC l))]
   (mw i (.u 2 T (lC (l.set v (kl f l v phi how)))) (.bool (!decide (kl f l v phi how=lv l v)))):=by
 obtain ⟨r,hr⟩:∃r,kl f l v phi how=r:=⟨_,rfl⟩;have hnx:=Dj (E:=E) f hF l hl i T v hv hm phi how;rw[hr] at hnx ⊢;have hll:=hl.1;have hlv:l[v]?=some (lv l v):=Dc (l:=l) (a:=(v:Int)) (by omega);refine aX.now<|zm func80 U (by decide) U<|Z<|ah U<|Y<|Z<|X (nT U)<|C U<|aw U<|C U<|zy U (zk (.l (.rest _))) (hnx) ?_;rintro r15 O15 ⟨rfl,rfl⟩
 refine zp (cs:=[.int .i64 0,.int .i64 0]) Za U U<|fun i9=>zi j8 U U U U U U .head U<|Y<|za<|zn (fun j=>false) (by kernel_rfl) U (zk (.r (.r (.rest _))))<|D 0 U (qb jw j8 U ⟨_,.head⟩ U)<|D 1 U (nT U)<|D 2 U (q5 U)<|D 3 U (dk Zq U Xm U U)<|D 4 U (q8 (c:=.j _ _) isAgg40 U)<|D 5 U (dC U)<|D 6 U (Gv.idxR (j:=v) Yo j8 U U U ⟨_,.t1⟩ hll hv)<|D 7 U (Gv.loadR (j:=v) jw j8 U ⟨_,.t1⟩ hlv)<|D 8 U (Gv.eqlP (xs:=[.int _ _,.int _ _]) (ys:=[.int _ _,.int _ _]) (by kernel_rfl) U U (fun w=>pd _ _ _ _ w))<|D 9 U (sx U)<|dS<|za<|zn (fun j=>Nat.beq j 7) (by kernel_rfl) U (zk (.r (.r (.rest _))))<|D 0 U (nT U)<|D 1 U (q5 U)<|D 2 U (dk Zq U Xm U U)<|D 3 U (q8 (c:=.j _ _) isAgg40 U)<|D 4 U (dC U)<|D 5 U (qb jw j8 U ⟨_,.head⟩ U)<|D 6 U (Gv.idxR (j:=v) Yo j8 U U U ⟨_,.t1⟩ hll hv)<|y4<|yg (i:=7) U (by kernel_rfl) (by kernel_rfl)<|ax.storeR (j:=v) j8 U U .t1 (by rw[hll];exact hv)<|Y<|y8 (by kernel_rfl)<|Z<|aw U<|aL U<|ah U<|Y<|zf ?_
 repeat (first|refine ad ?_|refine aa ?_)
 refine bt U ?_;exact ⟨by rw[Ik],.d1⟩
end
section
open Go.Proofs.Tryz
open Go.Proofs Go.Lib Go.Shelf Go.RowKit
theorem M6:dp prog 40 63 1 2 [.i 0,.i 0]:=⟨_,Yo,j8,Za,by decide,by decide,by kernel_rfl⟩
variable {E:World}
set_option maxRecDepth 20000
theorem uB (f:ab) (hF:mx f) (s:List aO × Bool) (hl:eh f.v.length s.1) (i:Nat) (T:TypeId) (q:Int × Bool) (hq:q∈f8 f) (how:Int) :
  aX prog E 80 [ki f (k4 f) (.j i f.v.length),.i q.1,.bool q.2,.i how] [(i,.u 2 T (lC s.1))]
   (mw i (.u 2 T (lC (mH f how s q).1)) (.bool (!decide (kl f s.1 q.1 q.2 how=lv s.1 q.1)))):=by
 obtain ⟨h0,h1,h2,_⟩:=pF hF q hq;have hvv:((q.1.toNat:Nat):Int)=q.1:=we h0;have:=Ge (E:=E) f hF s.1 hl i T q.1.toNat (by omega) (by rw[hvv];exact h2) q.2 how;rw[hvv] at this;exact this
theorem Bj {f:ab} {b:aF} (hb:b∈f.q) {p:dh} (hp:p∈b.p):(p.dst,true)∈f8 f:=qT.2 ⟨b,hb,.inl ⟨rfl,p,hp,rfl⟩⟩
theorem wY {f:ab} {b:aF} (hb:b∈f.q) {x:aB} (hx:x∈b.s) (h0:0≤x.dst):(x.dst,false)∈f8 f:=qT.2 ⟨b,hb,.inr ⟨rfl,h0,x,hx,rfl⟩⟩
theorem Iu {f:ab} (hR:fo f.v.length (rF f) (cT f)) (how:Int) {s:List aO × Bool} (h:eh f.v.length s.1) {q:Int × Bool} (hq:q∈f8 f):eh f.v.length (mH f how s q).1:=
 Iq hR how [q] s (fun x hx=>by rw[List.mem_singleton.1 hx];exact hq) h
set_option maxHeartbeats 4000000 in
theorem rM (f:ab) (hF:mx f) (hR:fo f.v.length (rF f) (cT f)) (l0:List aO) (hl0:eh f.v.length l0) (i:Nat) (T:TypeId) (how:Int) :
  aX prog E 42 [ki f (k4 f) (.j i f.v.length),.i how] [(i,.u 2 T (lC l0))]
   (mw i (.u 2 T (lC (lA f how (f8 f) (l0,false)).1)) (.bool (lA f how (f8 f) (l0,false)).2)):=by
 have hf:=hF.small;have hn:=hf.2.2.1;obtain ⟨z,hz⟩:∃z,lA f how (f8 f) (l0,false)=z:=⟨_,rfl⟩;rw[hz];refine aX.now<|zm func42 U (by decide) U<|Z<|ah U<|Y<|Z<|ah U<|Y<|za<|Z<|X (nT U)<|X (q5 U)<|ao Zq U jk U U<|ao jf U Zd U U<|aK Zf U<|am jr U<|C U<|Y<|zd<|zu (γ:=Nat × List aO × Bool) [0,1,16,17] (fun g=>[(18,.i g.1),(5,.bool g.2.2)]) (fun g=>[(i,.u 2 T (lC g.2.1))]) (fun g=>g.1≤f.q.length∧g.2=lA f how (nf f g.1) (l0,false)∧eh f.v.length g.2.1) (fun g=>f.q.length - g.1) (0,l0,false) cV aJ (⟨qw _,U,hl0⟩) ?_;rintro ⟨k,l,c⟩ ⟨hk,hs,hl⟩;try dsimp only at *
 refine Z<|aq U U<|Y<|za<|zh U (fun ck=>?_) (fun ck=>?_)
 ·have hk2:k<f.q.length:=by simp at ck;omega
  obtain ⟨b,hbk⟩:∃b,f.q[k]=b:=⟨_,rfl⟩;have hget:f.q[k]?=some b:=by rw[qt hk2,hbk]
  have hmem:b∈f.q:=hbk▸qx hk2;obtain ⟨hb0,hb1,hb2,hb3,hb4⟩:=hf.2.2.2.2 b hmem;refine zc<|za<|zd<|Z<|X (bD k jr Z1 U U U hget)<|ae Ye Z1 U U<|zp (cs:=[.e,.n,.n,.int .i64 0,.int .i64 0,.int .i64 0,.int .i64 0]) Zh U U<|fun i7=>zi Z1 U U U U U U .head U<|y9 (zz (t:=7) U .head)<|Y<|za<|Z<|ao ji U Zv U U<|aK Yf U<|am Z6 U<|C U<|Y<|zd<|zu (γ:=Nat × List aO × Bool) [0,1,7,16,17,18,23,24] (fun g=>[(25,.i g.1),(5,.bool g.2.2)]) (fun g=>[(i,.u 2 T (lC g.2.1))]) (fun g=>g.1≤b.p.length∧g.2=lA f how (nf f k++(b.p.take g.1).map fun p=>((p.dst,true):Int × Bool)) (l0,false)∧eh f.v.length g.2.1) (fun g=>b.p.length - g.1) (0,l,c) cV aJ (⟨qw _,by rw[List.take_zero,List.map_nil,w8];exact hs,hl⟩) ?_;rintro ⟨j,l,c⟩ ⟨hj,hs,hl⟩;try dsimp only at *
  refine Z<|aq U U<|Y<|za<|zh U (fun cj=>?_) (fun cj=>?_)
  ·have hj2:j<b.p.length:=by simp at cj;omega
   obtain ⟨p,hp⟩:∃p,b.p[j]=p:=⟨_,rfl⟩;have hq:=Bj hmem (hp▸qx hj2);refine zc<|za<|zd<|Z<|X (bD j Z6 Ze U U U (by rw[qt hj2,hp])) ?_;refine ae Ys Ze U U<|zp (cs:=[.i 0,.n,.n]) Y0 U U<|fun i9=>zi Ze U U U U U U .head U<|y9 (zz (t:=9) U .head)<|Y<|y3 (γ:=Bool) [0,1,7,16,17,18,23,24,25] (fun u=>[(5,.bool u)]) (fun u=>[(i,.u 2 T (lC (mH f how (l,c) (p.dst,true)).1))]) (fun u=>u=(mH f how (l,c) (p.dst,true)).2) ?_ (fun _ _ h=>h) ?_
   ·refine bZ<|X (nT U)<|ao Z3 U j9 U U<|aD jg U<|C U<|zy U (zk (.l (.rest _))) (uB f hF (l,c) hl i T (p.dst,true) hq how) ?_;rintro r33 O33 ⟨rfl,rfl⟩;refine aw U<|zo (s:=34) U (fun c1=>?_) (fun c1=>?_)
    ·refine H U U c1<|aA U c1 U<|ah U<|Y ?_;exact ⟨_,p9,aN,aJ,by unfold mH;simp_all⟩
    refine M U U c1<|aw U<|ay U c1 U<|ah U<|Y ?_;exact ⟨_,p9,aN,aJ,by unfold mH;simp_all⟩
   rintro u hu;subst hu;refine bQ U U ?_;exact ⟨(j+1,mH f how (l,c) (p.dst,true)),rY,cV,aJ,⟨hj2,by rw[A4 hj2,←qv,wT,←hs,hp],Iu hR how hl hq⟩,by dsimp only;omega⟩
  have hjn:j=b.p.length:=by simp at cj;omega
  subst hjn;rw[qy] at hs;refine zt<|Z<|ao ji U Zw U U<|aK Y3 U<|am Z4 U<|C U<|Y<|zd<|zu (γ:=Nat × List aO × Bool) [0,1,16,17,18,39,40] (fun g=>[(41,.i g.1),(5,.bool g.2.2)]) (fun g=>[(i,.u 2 T (lC g.2.1))]) (fun g=>g.1≤b.s.length∧g.2=lA f how (nf f k++(uq b++nc (b.s.take g.1))) (l0,false)∧eh f.v.length g.2.1) (fun g=>b.s.length - g.1) (0,l,c) cV aJ (⟨qw _,by rw[List.take_zero,show nc []=[] from rfl,w8];exact hs,hl⟩) ?_;rintro ⟨m,l,c⟩ ⟨hm,hs,hl⟩;try dsimp only at *
  refine Z<|aq U U<|Y<|za<|zh U (fun cm=>?_) (fun cm=>?_)
  ·have hm2:m<b.s.length:=by simp at cm;omega
   obtain ⟨x,hx⟩:∃x,b.s[m]=x:=⟨_,rfl⟩;have hsn:=A5 hm2;rw[hx] at hsn;refine zc<|za<|zd<|Z<|X (bD m Z4 Z9 U U U (by rw[qt hm2,hx])) ?_;refine ae Yg Z9 U U<|zp (cs:=[.i 0,.i 0,.n,.i 0]) Zo U U<|fun i11=>zi Z9 U U U U U U .head U<|y9 (zz (t:=11) U .head)<|Y<|Z<|ao jd U j9 U U<|aD jg U<|X (q7 U U)<|Y<|zh U (fun cd=>?_) (fun cd=>?_)
   ·have hq:=wY hmem (hx▸qx hm2) cd;rw[if_pos cd] at hsn;refine y3 (γ:=Bool) [0,1,16,17,18,39,40,41] (fun u=>[(5,.bool u)]) (fun u=>[(i,.u 2 T (lC (mH f how (l,c) (x.dst,false)).1))]) (fun u=>u=(mH f how (l,c) (x.dst,false)).2) ?_ (fun _ _ h=>h) ?_
    ·refine bZ<|X (nT U)<|ao jd U j9 U U<|aD jg U<|C U<|zy U (zk (.l (.rest _))) (uB f hF (l,c) hl i T (x.dst,false) hq how) ?_;rintro r52 O52 ⟨rfl,rfl⟩;refine aw U<|zo (s:=53) U (fun c2=>?_) (fun c2=>?_)
     ·refine H U U c2<|aA U c2 U<|ah U<|Y ?_;exact ⟨_,rY,aN,aJ,by unfold mH;simp_all⟩
     refine M U U c2<|aw U<|ay U c2 U<|ah U<|Y ?_;exact ⟨_,rY,aN,aJ,by unfold mH;simp_all⟩
    rintro u hu;subst hu;refine bQ U U ?_;exact ⟨(m+1,mH f how (l,c) (x.dst,false)),lI,cV,aJ,⟨hm2,by rw[hsn,←qv (uq b),←qv,wT,←hs],Iu hR how hl hq⟩,by dsimp only;omega⟩
   rw[if_neg cd,w8] at hsn;refine zc<|bQ U U ?_;exact ⟨(m+1,l,c),lI,cV,aJ,⟨hm2,by rw[hsn];exact hs,hl⟩,by dsimp only;omega⟩
  have hmn:m=b.s.length:=by simp at cm;omega
  subst hmn;rw[qy] at hs;refine zt<|bQ U U ?_;exact ⟨(k+1,l,c),f7,cV,aJ,⟨hk2,by rw[A3 hk2,hbk];exact hs,hl⟩,by dsimp only;omega⟩
 have hkn:k=f.q.length:=by simp at ck;omega
 subst hkn;rw[Db,hz] at hs;subst hs;refine zt<|Z<|aw U<|ah U<|Y<|zf ?_
 repeat (first|refine ad ?_|refine aa ?_)
 refine bt U ?_;exact ⟨rfl,_,.refl _,rfl⟩
def Oo (f:ab) (l:List aO):List aO:=(cT f).foldl (fh (rF f)) l
def Iv (f:ab) (l:List aO):Nat→List aO
 |0=>l
 |m+1=>Oo f (Iv f l m)
theorem EF {f:ab} (hR:fo f.v.length (rF f) (cT f)) {l:List aO} (hl:eh f.v.length l):∀m,eh f.v.length (Iv f l m)
 |0=>hl
 |m+1=>by
  have:=uA hR (f8 f) (Iv f l m) false (fun _ h=>h) (EF hR hl m);rw[this.2] at this;exact this.1
theorem Bk (f:ab) (hF:mx f) (hR:fo f.v.length (rF f) (cT f)) (k:Nat) (i:Nat) (T:TypeId) :
  aX prog E 42 [ki f (k4 f) (.j i f.v.length),.i (if 3≤k then 1 else 0)] [(i,.u 2 T (lC (fT f k)))] (mw i (.u 2 T (lC (fT f (k+1)))) (.bool (!decide (fT f (k+1)=fT f k)))):=by
 have hg:=l9 hR k;have h:=rM (E:=E) f hF hR (fT f k) hg.ok i T (if 3≤k then 1 else 0);obtain ⟨_,h2,h3⟩:=Bf hR (pF hF) (how:=if 3≤k then 1 else 0) (n:=k+1) (by unfold K6;by_cases c:3≤k;rw[if_pos c,if_pos (by omega)];rw[if_neg c,if_neg (by omega)]) (f8 f) (fT f k) false (fun _ h=>h) hg;have e:gR (rF f) (kz f (k+1)) ((f8 f).map (·.1)) (fT f k)=fT f (k+1):=rfl;rw[e] at h2 h3;rw[h2] at h;rw[show (lA f (if 3≤k then 1 else 0) (f8 f) (fT f k,false)).2=!decide (fT f (k+1)=fT f k) by rw[w4,h3];simp] at h;exact h
theorem Bl (f:ab) (hF:mx f) (hR:fo f.v.length (rF f) (cT f)) (l:List aO) (hl:eh f.v.length l) (i:Nat) (T:TypeId) :
  aX prog E 42 [ki f (k4 f) (.j i f.v.length),.i 2] [(i,.u 2 T (lC l))] (fun y O=>∃c:Bool,y=.bool c∧O=[(i,.u 2 T (lC (Oo f l)))]∧True):=by
 have h:=rM (E:=E) f hF hR l hl i T 2;have h2:=(uA hR (f8 f) l false (fun _ h=>h) hl).2;rw[h2] at h;exact h.mono fun y O ⟨a,b⟩=>⟨_,a,b,trivial⟩
set_option maxHeartbeats 4000000 in
theorem Iw (f:ab) (hf:small f) (hL:bS E) (hs:(bv f&&eC f)=true) (hR:fo f.v.length (rF f) (cT f)) (K:Nat) (hK:Bg f K) :
  aS prog E 18 [.agg (bH f)] (.tup [.fro 2 ((x9 f K).map bM),.i 0]):=by
 have hvn:=hf.1;have hF:=ux hf hs;have hty:=(uw hs).1;have hlk:=K5 (E:=E) f hf hL hs;have hend:eh f.v.length (x9 f K):=(qX hR hK).1;refine zm func18 U (by decide) U<|Z<|zx (cs:=_) U U U<|X (kT U)<|ap U<|Y<|Z<|ae Z2 jk U U<|zy U (zk (.rest _)) (hlk) ?_;rintro r11 O11 ⟨iv,rfl,rfl⟩;refine X (v8 U)<|X (Gv.extract (v:=.po _ _) U U)<|X (nU U U)<|X (xw U)<|ap U<|Y<|za<|Z<|C U<|aT U U<|Y<|yl U U<|zc<|za<|Z<|ao jf U Zs U U<|aK Y4 U<|am Z7 U<|C U<|Y<|fY (off:=5) (k:=2) (T:=63) (fun _=>.head) U<|fun jl=>zd<|zu (γ:=Nat × Nat) [1,4,19] (fun g=>[(20,.i g.1)]) (fun g=>[(g.2,.u 2 63 (lC ((fB f).take g.1))),(iv,.cells 111 (A6 f (k4 f) (.j g.2 g.1)))]) (fun g=>g.1≤f.v.length) (fun g=>f.v.length - g.1) (0,jl) aN aJ (qw _) ?_;rintro ⟨k,jl⟩ hk;try dsimp only at *
 refine Z<|aq U U<|Y<|za<|zh U (fun ck=>?_) (fun ck=>?_)
 ·have hk2:k<f.v.length:=by simp at ck;omega
  have hfl:((fB f).take k).length=k:=by rw[w9,l7];omega
  have hft:=AZ hk2;have hvf:=Be (E:=E) f hf hL (k:Int);have hfp:uy f (k:Int)=iX f (k:Int):=by unfold uy;rw[if_pos ⟨hty,by omega,by omega⟩]
  rw[hfp] at hvf;refine zc<|za<|zd<|Z<|C U<|ap U<|Y<|za<|y3 (γ:=Nat) [1,4,6,19,20] (fun z=>[]) (fun z=>[(z,.u 2 63 (lC ((fB f).take k++[fD]))),(iv,.cells 111 (A6 f (k4 f) (.j z (k+1))))]) (fun z=>True) ?_ (fun _ _ h=>h) ?_
  ·refine zn (fun j=>Nat.beq j 10) (by kernel_rfl) U (zk (.l (.r (.rest _))))<|D 0 U (dZ U)<|D 1 U (dZ U)<|D 2 U (zr U)<|D 3 U (ze Zq U Xm (by decide) U U)<|D 4 U (zj (c:=.j _ _) isAgg40 U ⟨_,.head⟩ U)<|bp 5 U<|zb (jA) U<|Y<|bp 6 U<|zw (rows:=[[_,_]]) M6 U U U U U<|Y<|bp 7 U<|yb (k:=2) Yo type63 U U U U U (fun _=>.head) (by rw[xU,hfl]) (by decide) U (by show (_+1)*16≤_;omega) (by show _+1≤_;omega)<|fun i30=>Y<|yo (i:=8) U (by kernel_rfl) (by kernel_rfl) (by kernel_rfl) (by kernel_rfl) (zr U)<|D 9 U (ze Zq U Xm (by decide) U U)<|y4<|yg (i:=10) U (by kernel_rfl) (by kernel_rfl)<|yh (l:=[_]) (new:=[_,_,_,_,_,_]) Xm U U U U U U .head U U<|cC .head<|cC .t1<|Y<|y8 (by kernel_rfl) ?_;exact ⟨i30,lf,trivial,⟨_,(.refl _),(by rw[←Er];rfl)⟩,trivial⟩
  rintro jz _;refine Z<|bf U<|aC U<|X (ze Zq U Yt (by decide) U U)<|X (zj (c:=.fro _ _) Xa U ⟨_,.t1⟩ U)<|C U<|X (bD k Zm Ya U U U (kJ hk2))<|ao Y9 U j9 U U<|aD jg U<|aq U U<|Y<|zh U (fun cm=>?_) (fun cm=>?_)
  ·refine zn (fun j=>Nat.beq j 9) (by kernel_rfl) U (zk (.l (.r (.rest _))))<|D 0 U (dZ U)<|D 1 U (zr U)<|D 2 U (ze Zq U Xm (by decide) U U)<|D 3 U (zj (c:=.j _ _) isAgg40 U ⟨_,.head⟩ U)<|D 4 U (dC U)<|D 5 U (yj Z2 jk U U)<|D 6 U (dC U)<|bp 7 U<|zb (hvf) U<|Y<|bp 8 U<|X (Gv.idxR (j:=k) Yo j8 U U U ⟨_,.head⟩ (by rw[qz,hfl];rfl) (by omega))<|Y<|y4<|yg (i:=9) U (by kernel_rfl) (by kernel_rfl)<|ax.storeR (j:=k) j8 U U .t1 (by rw[qz,hfl];show k<k+1;omega)<|Y<|y8 (by kernel_rfl)<|gd .t1<|bQ U U ?_;exact ⟨(k+1,jz),eX,aN,⟨_,(.refl _),by rw[hft,show jH f (k:Int)=iX f (k:Int) by unfold jH;rw[if_pos cm],List.set_append_right k (iX f k) (by omega),hfl,Nat.sub_self];rfl⟩,hk2,by dsimp only;omega⟩
  refine zc<|bQ U U ?_;exact ⟨(k+1,jz),eX,aN,⟨_,(.refl _),by rw[hft,show jH f (k:Int)=fD by unfold jH;rw[if_neg cm]];try rfl⟩,hk2,by dsimp only;omega⟩
 have hkn:k=f.v.length:=by simp at ck;omega
 subst hkn;rw[show (fB f).take f.v.length=fB f by rw[←l7 f,qy]];refine zt<|Z<|ap U<|Y<|za<|Z<|ap U<|Y<|yd (zz (t:=4) U .t1)<|zd<|zu (γ:=Nat × Int) [4] (fun g=>[(7,.i (if 3≤g.1 then 1 else 0)),(8,.i g.2)]) (fun g=>[(jl,.u 2 63 (lC (fT f g.1)))]) (fun g=>g.1≤K∧(g.1<3→g.2=(g.1:Int)+1)) (fun g=>K - g.1) (0,1) cV aJ (⟨qw _,fun _=>U⟩) ?_;rintro ⟨m,z⟩ ⟨hm,hz⟩;try dsimp only at *
 refine za<|Z<|X (nT U)<|C U<|zy U (zk (.l (.rest _))) (Bk f hF hR m jl _) ?_;rintro r54 O54 ⟨rfl,rfl⟩;refine Y<|zq U (fun cr=>?_) (fun cr=>?_)
 ·have hne:¬fT f (m+1)=fT f m:=EC cr;have hm2:m<K:=by
   rcases (by omega:m<K∨m=K) with h|h
   ·exact h
   rw[h] at hne;exact absurd hK.still hne
  refine zc<|za<|y3 (γ:=Int) [4,8] (fun w=>[(7,.i w)]) (fun w=>[(jl,.u 2 63 (lC (fT f (m+1))))]) (fun w=>w=if 3≤m+1 then 1 else 0) ?_ (fun _ _ h=>h) ?_
  ·refine zd<|Z<|C U<|X (q7 U U)<|Y<|zh U (fun c3=>?_) (fun c3=>?_)
   ·refine bZ<|ap U<|Y ?_;exact ⟨_,cV,aN,aJ,by split;rfl;(have:=hz (by omega);omega)⟩
   refine zc ?_;exact ⟨_,cV,aN,aJ,by by_cases h:3≤m;rw[if_pos h,if_pos (by omega)];(have:=hz (by omega);rw[if_neg h,if_neg (by omega)])⟩
  rintro w hw;subst hw;refine bZ<|C U<|X (Gv.addW U U)<|ap U<|Y ?_;exact ⟨(m+1,IntKind.i64.wrap (z+1)),aN,cV,aJ,⟨hm2,fun h=>by rw[hz (by omega)];exact gj (by unfold aY;omega)⟩,by dsimp only;omega⟩
 have hst:fT f (m+1)=fT f m:=ED cr;have hmK:m=K:=by
  rcases (by omega:m<K∨m=K) with h|h
  ·exact absurd hst (hK.moves m h)
  exact h
 subst hmK;rw[hst];refine zt<|za<|Z<|C U<|Y<|zd<|zu (γ:=Nat) [4] (fun q=>[(59,.i q)]) (fun q=>[(jl,.u 2 63 (lC (Iv f (fT f m) q)))]) (fun q=>q≤2) (fun q=>2 - q) 0 aN aJ (qw _) ?_;rintro q hq;refine Z<|aq U U<|Y<|za<|zh U (fun cq=>?_) (fun cq=>?_)
 ·refine zc<|za<|zd<|bZ<|X (nT U)<|zy U (zk (.l (.rest _))) (Bl f hF hR (Iv f (fT f m) q) (EF hR (l9 hR m).ok q) jl _) ?_;rintro r62 O62 ⟨c62,rfl,rfl,_⟩;refine Y<|bQ U U ?_;exact ⟨q+1,aN,aN,aJ,by omega,by omega⟩
 obtain rfl:q=2:=by omega
 refine zt<|Z<|X (nT U)<|X (q5 U)<|ao Zq U Xm U U<|X (q8 (c:=.j _ _) isAgg40 U)<|X (eO U)<|ap U<|Y<|yd (aR.knowR (t:=2) U .head hend.1)<|zf<|ql (x:=.fro _ _) (y:=.int _ _) U U ?_
 rfl
end
section
open Go.Proofs.Tryz
open Go.Proofs Go.Lib Go.Shelf Go.RowKit
variable {E:World}
set_option maxRecDepth 20000
end
section
open Go.Proofs.Tryz
open Go.Proofs
def yY (x y:AV):Prop:=∀I v,bW I x v→bW I y v
def oN (xs ys:List AV):Prop:=∀I vs,RepL I xs vs→RepL I ys vs
theorem yY.refl (x:AV):yY x x:=fun _ _ h=>h
theorem yY.nil (k:Nat):yY .n (.fro k []):=fun _ _ h=>⟨none,0,0,h,rfl,Nat.le_refl _,fun _=>rfl,trivial⟩
theorem oN.nil:oN [] []:=fun _ _ h=>h
theorem oN.cons {x y:AV} {xs ys:List AV} (h:yY x y) (hs:oN xs ys):oN (x::xs) (y::ys):=fun I _ ⟨v,us,e,h1,h2⟩=>⟨v,us,e,h I v h1,hs I us h2⟩
theorem yY.agg {xs ys:List AV} (h:oN xs ys):yY (.agg xs) (.agg ys):=fun I _ ⟨vs,e,h1⟩=>⟨vs,e,h I vs h1⟩
end
section
open Go.Proofs.Tryz
open Go.Proofs Go.Lib Go.Shelf Go.RowKit
theorem M7:eS prog 48 #[(0,1),(1,1)] [.e,.i 0]:=⟨_,_,Zr,Xf,fun w=>by kernel_rfl,rfl⟩
theorem M8:dp prog 22 48 2 2 [.e,.i 0,.e,.i 0]:=⟨_,Z7,Yc,Xf,by decide,by decide,by kernel_rfl⟩
theorem Dk:eS prog 51 #[(0,1),(1,1),(2,1),(3,1)] [.i 0,.i 0,.n,.i 0]:=⟨_,_,jd,Zo,fun w=>by kernel_rfl,rfl⟩
theorem M9:dp prog 52 51 2 4 [.i 0,.i 0,.n,.i 0,.i 0,.i 0,.n,.i 0]:=⟨_,Z4,Z9,Zo,by decide,by decide,by kernel_rfl⟩
theorem Pq:eS prog 56 #[(0,1),(1,1),(2,2)] [.i 0,.i 0,.i 0,.i 0]:=⟨_,_,jj,Xg,fun w=>by kernel_rfl,rfl⟩
theorem Oq:eS prog 59 #[(0,1),(1,1),(2,1),(3,4)] [.e,.n,.n,.i 0,.i 0,.i 0,.i 0]:=⟨_,_,ji,Zh,fun w=>by kernel_rfl,rfl⟩
theorem Na:dp prog 24 59 1 7 [.e,.n,.n,.i 0,.i 0,.i 0,.i 0]:=⟨_,jr,Z1,Zh,by decide,by decide,by kernel_rfl⟩
theorem K8:eS prog 26 #[(0,1),(1,1),(2,1)] [.n,.n,.n]:=⟨_,_,jf,zeroValue26,fun w=>by kernel_rfl,rfl⟩
variable {E:World}
set_option maxRecDepth 20000
def kM:ab:=⟨[⟨⟨#[110]⟩,0⟩,⟨⟨#[109]⟩,0⟩],[],[⟨⟨#[97]⟩,[],[⟨0,0,[],5⟩,⟨2,1,[0,0],0⟩],⟨2,1,0,0⟩⟩]⟩
theorem EG:small kM:=by unfold small kM;simp[Ai];decide
theorem Ix:(bv kM&&eC kM)=true:=by decide +kernel
theorem Nb:∀b∈kM.q,∀x∈b.s,aY x.num:=by decide
theorem K9:Bg kM 1:=⟨by decide +kernel,fun i hi=>by obtain rfl:i=0:=(by omega);decide +kernel⟩
theorem Or:x9 kM 1=[(5,5),(10,10)]:=by decide +kernel
theorem yA (hL:bS E):aS prog E 17 [] (.bool true):=by
 have hF:=ux EG Ix;have ha:=Iw (E:=E) kM EG hL Ix (uz (Bi hF Nb) (pF hF)) 1 K9;rw[Or] at ha
 refine zm func17 U (by decide) U<|Z<|ah U<|Y<|Z<|X (y5 (cps:=[(0,[_])]) (rs:=[_,.int .i64 0]) M7 U U U)<|X (y5 (cps:=[(0,[_])]) (rs:=[_,.int .i64 0]) M7 U U U)<|zw (rows:=[[_,_],[_,_]]) M8 U U U U U<|X (y5 (cps:=[(0,[_]),(1,[_]),(3,[_])]) (rs:=[_,_,.n,_]) Dk U U U)<|y9 (aR.slot (t:=7) U (yY.agg (.cons (.refl _) (.cons (.refl _) (.cons (.nil 1) (.cons (.refl _) .nil))))))<|zw (rows:=[[_],[_]]) tv U U U U U<|X (y5 (cps:=[(0,[_]),(1,[_]),(2,[_])]) (rs:=[_,_,_,.int .i64 0]) Dk U U U)<|zw (rows:=[[_,_,_,_],[_,_,_,_]]) M9 U U U U U<|X (y5 (cps:=[(0,[_]),(1,[_])]) (rs:=[_,_,.int .i64 0,.int .i64 0]) Pq U U U)<|X (y5 (cps:=[(0,[_]),(2,[_]),(3,[_,_,_,_])]) (rs:=[_,.n,_,_,_,_,_]) Oq U U U)<|y9 (aR.slot (t:=12) U (yY.agg (.cons (.refl _) (.cons (.nil 3) (.cons (.refl _) (.cons (.refl _) (.cons (.refl _) (.cons (.refl _) (.cons (.refl _) .nil)))))))))<|zw (rows:=[[_,_,_,_,_,_,_]]) Na U U U U U<|X (y5 (cps:=[(0,[_]),(2,[_])]) (rs:=[_,.n,_]) K8 U U U)<|y9 (aR.slot (t:=14) U (yY.agg (.cons (.refl _) (.cons (.nil 1) (.cons (.refl _) .nil)))))<|zp (cs:=[.n,.n,.n]) zeroValue26 U U<|fun i1=>zi jk U U U U U U .head U<|y9 (zz (t:=1) U .head)<|Y<|Z<|ae Z2 jk U U<|zb (ha) U<|X (v8 U)<|X (Gv.extract (v:=.fro _ _) U U)<|X (nU U U)<|X (oU U)<|ap U<|Y<|Z<|C U<|au U U<|aw U<|M U U U<|bj U<|M U U U<|am Yo U ?_
 refine M U U U<|au U U<|aA U U U<|aw U<|M U U U<|bj U<|M U U U<|X (bD 1 Yo j8 U U U U)<|M U U U<|ae jw j8 U U<|M U U U<|X (y5 (cps:=[(0,[_]),(1,[_])]) (rs:=[_,_]) pb U U U)<|M U U U<|X (Gv.eqlP (xs:=[.int _ _,.int _ _]) (ys:=[.int _ _,.int _ _]) (by kernel_rfl) U U (fun w=>pd _ _ _ _ w))<|aA U U U<|ah U<|Y<|zf ?_
 repeat (first|refine ad ?_|refine aa ?_)
 refine bt U ?_
 rfl
end
section
open Go.Proofs.Tryz
open Go.Proofs Go.Lib Go.Shelf Go.RowKit
variable {E:World}
set_option maxRecDepth 20000
theorem Gf {f:ab} (hF:mx f) (k:Nat):(k:Int)∈cT f↔0≤(aE f k).1:=by
 constructor
 ·intro h;obtain ⟨q,hq,e⟩:=List.mem_map.1 h;have:=(pF hF q hq).2.2.1
  rwa [e] at this
 intro h;obtain ⟨i,b,h1,⟨p,h2,h3,_⟩|⟨j,x,h2,h3,_⟩⟩:=iN h
 ·exact List.mem_map.2 ⟨_,Bj (w5 h1) h2,h3⟩
 exact List.mem_map.2 ⟨_,wY (w5 h1) (w5 h2) (by omega),h3⟩
end
section
open Go.Proofs.Tryz
structure Ot where
 a:Int
 b:Int
 c:Int
def jn (l:List (Option Int)) (v:Int):Option Int:=(l[v.toNat]?).join
def EH:Int:=1152921504606846976
def Ou (n:Nat) (v:Int):Prop:=0≤v∧v<n
def Nc (n:Nat) (q:Ot):Prop:=Ou n q.a∧Ou n q.b
section
variable {n:Nat} {rule:List aO→Int→aO} {vs:List Int} {phi:Int→Prop} {rank:Int→Nat}
end
section
variable {n:Nat} {rule:List aO→Int→aO} {vs:List Int} {phi:Int→Prop} {t:Int→aO}
end
structure GS where
 ints:List Int
 bools:List Bool
 arrs:List Int
 y:List (List Int)
 blk:Int
 pc:Nat
 en:Int
 val:Int
 tr:Int
 trace:List Int
 st:Nat
 ck:Nat→Nat
 ended:Bool
structure Dl where
 int:Int
 b:Bool
 arr:Int
structure vM where
 args:List Dl
 y:List (List Int)
def vi (l:List Int) (v:Int):Int:=(l[v.toNat]?).getD 0
def dH (x:aB):Int:=(x.args[0]?).getD 0
def fw (x:aB):Int:=(x.args[1]?).getD 0
def Cq (x:aB):Int:=(x.args[2]?).getD 0
def dw (s:GS) (a:Int):List Int:=(s.y[a.toNat]?).getD []
def dK (s:GS) (a i:Int):Bool:=decide (0≤a∧a<s.y.length∧0≤i∧i<(dw s a).length)
def yZ (l:List Int) (ints:List Int):Int:=if 1<l.length then vi ints ((l[1]?).getD 0) else 0
def fU (s:GS) (op:Int) (l:List Int):Bool:=
 if op=18 then dK s (vi s.arrs ((l[0]?).getD 0)) (yZ l s.ints)
 else if op=19 then decide (0≤vi s.arrs ((l[0]?).getD 0))
 else if op=20 then decide (vi s.ints ((l[0]?).getD 0)≠0)
 else if op=21 then decide (dF 0 (vi s.ints ((l[0]?).getD 0)) (yZ l s.ints))
 else if op=22 then decide (dF 1 (vi s.ints ((l[0]?).getD 0)) (yZ l s.ints))
 else if op=23 then decide (dF 2 (vi s.ints ((l[0]?).getD 0)) (yZ l s.ints))
 else decide (0≤vi s.ints ((l[0]?).getD 0)∧vi s.ints ((l[0]?).getD 0)≤64)
def n4 (s:GS) (t:Nat):GS:={ s with ck:=fun i=>if i=t then s.ck i+1 else s.ck i }
def d7 (s:GS) (e:Int):GS:={ s with en:=e,ended:=true }
def Iy (s:GS) (t:Int):GS:={ s with en:=1,tr:=t,ended:=true }
def stI (s:GS) (d v:Int):GS:={ s with ints:=s.ints.set d.toNat v }
def stB (s:GS) (d:Int) (v:Bool):GS:={ s with bools:=s.bools.set d.toNat v }
def stA (s:GS) (d v:Int):GS:={ s with arrs:=s.arrs.set d.toNat v }
def vN (a b:Int):Int:=IntKind.i64.wrap (a.tdiv b)
def qY (a b:Int):Int:=if b=-1 then 0 else IntKind.i64.wrap (a - IntKind.i64.wrap (IntKind.i64.wrap (a.tdiv b)*b))
def aG (s:GS) (x:aB):Int:=vi s.ints (dH x)
def bG (s:GS) (x:aB):Int:=vi s.ints (fw x)
def pG (s:GS) (x:aB):Bool:=gb s.bools (dH x)
def qG (s:GS) (x:aB):Bool:=gb s.bools (fw x)
def rG (s:GS) (x:aB):Int:=vi s.arrs (dH x)
def doG (s:GS) (x:aB):GS:=
 if x.op=0 then stI s x.dst x.num
 else if x.op=1∨x.op=25∨x.op=26 then stA (stB (stI s x.dst (aG s x)) x.dst (pG s x)) x.dst (rG s x)
 else if x.op=2 then stI s x.dst (IntKind.i64.wrap (iH 0 (aG s x) (bG s x)))
 else if x.op=3 then stI s x.dst (IntKind.i64.wrap (iH 1 (aG s x) (bG s x)))
 else if x.op=4 then stI s x.dst (IntKind.i64.wrap (iH 2 (aG s x) (bG s x)))
 else if x.op=5 then (if bG s x=0 then d7 s 2 else stI s x.dst (vN (aG s x) (bG s x)))
 else if x.op=6 then (if bG s x=0 then d7 s 2 else stI s x.dst (qY (aG s x) (bG s x)))
 else if x.op=7 then stB s x.dst (decide (aG s x=bG s x))
 else if x.op=8 then stB s x.dst (decide (aG s x<bG s x))
 else if x.op=9 then stB s x.dst (decide (aG s x≤bG s x))
 else if x.op=10 then stB s x.dst (!pG s x)
 else if x.op=11 then stB s x.dst (pG s x&&qG s x)
 else if x.op=12 then (if rG s x<0 then d7 s 2 else stI s x.dst ((dw s (rG s x)).length))
 else if x.op=13 then (if dK s (rG s x) (bG s x)=true then stI s x.dst (vi (dw s (rG s x)) (bG s x)) else d7 s 2)
 else if x.op=14 then (if dK s (rG s x) (bG s x)=true then { s with y:=s.y.set (rG s x).toNat ((dw s (rG s x)).set (bG s x).toNat (vi s.ints (Cq x))) } else d7 s 2)
 else if x.op=15 then (if aG s x<0∨64<aG s x then d7 s 2 else if 32≤s.y.length then d7 s 3 else stA { s with y:=s.y++[List.replicate (aG s x).toNat 0] } x.dst s.y.length)
 else if x.op=16 then stA s x.dst (-1)
 else (if 4096≤s.trace.length then d7 s 3 else { s with trace:=s.trace++[aG s x] })
def bc (s:GS) (x:aB):GS:=
 if 18≤x.op∧x.op≤24 then (if fU s x.op x.args=true then n4 s (x.op - 17).toNat else Iy (n4 s (x.op - 17).toNat) (x.op - 17))
 else doG s x
def aQ (f:ab) (b:Int):aF:=(f.q[b.toNat]?).getD ⟨⟨#[]⟩,[],[],⟨2,0,0,0⟩⟩
def dz (p:dh) (b:Int):Int:=((p.w.zip p.args).find? fun q=>decide (q.1=b)).elim (-1) (·.2)
def assign (s t:GS) (p:dh):GS:=stA (stB (stI t p.dst (vi s.ints (dz p s.blk))) p.dst (gb s.bools (dz p s.blk))) p.dst (vi s.arrs (dz p s.blk))
def goG (s:GS) (dst_:Int):GS:={ s with blk:=dst_,pc:=0 }
def fC (f:ab) (s:GS) (dst_:Int):GS:=
 if (aQ f dst_).p.all (fun p=>decide (0≤dz p s.blk))=true then goG ((aQ f dst_).p.foldl (assign s) s) dst_ else d7 (goG s dst_) 2
def gn (f:ab) (s:GS):Int:=if (aQ f s.blk).t.kind=0∨gb s.bools (aQ f s.blk).t.var=true then (aQ f s.blk).t.to0 else (aQ f s.blk).t.to1
def bx (f:ab) (s:GS):GS:=
 match (aQ f s.blk).s[s.pc]? with
 |some x=>bc { s with pc:=s.pc+1,st:=s.st+1 } x
 |none=>if (aQ f s.blk).t.kind=2 then d7 { s with st:=s.st+1,val:=vi s.ints (aQ f s.blk).t.var } 0 else fC f { s with st:=s.st+1 } (gn f s)
def nJ (f:ab) (i:Nat):Int:=((f.v[i]?).map (·.ty)).getD 0
def vO (f:ab) (i:Nat) (a:Dl):Int:=if nJ f i=0 then a.int else 0
def vP (f:ab) (i:Nat) (a:Dl):Bool:=if nJ f i=0 then false else if nJ f i=1 then a.b else false
def uC (f:ab) (i:Nat) (a:Dl):Int:=if nJ f i=0 then -1 else if nJ f i=1 then -1 else a.arr
def eD {α β:Type} (g:Nat→α→β) (d:β) (n:Nat) (l:List α):List β:=l.zipIdx.map (fun q=>g q.2 q.1)++List.replicate (n - l.length) d
def lB (f:ab) (i:vM):GS:=⟨eD (vO f) 0 f.v.length i.args,eD (vP f) false f.v.length i.args,eD (uC f) (-1) f.v.length i.args,i.y,0,0,3,0,0,[],0,fun _=>0,false⟩
structure bE (f:ab) (s:GS):Prop where
 li:s.ints.length=f.v.length
 lb:s.bools.length=f.v.length
 la:s.arrs.length=f.v.length
 i64:∀x∈s.ints,aY x
 arr:∀x∈s.arrs,-1≤x∧x<s.y.length
 ls:s.y.length≤40
 lr:∀r∈s.y,r.length≤100
 r64:∀r∈s.y,∀x∈r,aY x
 lt:s.trace.length≤4096
 b0:0≤s.blk
 b1:s.blk<f.q.length
 pc:s.pc≤(aQ f s.blk).s.length
theorem gz {l:List Int} {v:Int} (h1:v<l.length) (h0:0≤v):l[v.toNat]?=some (vi l v):=by
 unfold vi;rw[qt (by omega)];rfl
theorem Nd {l:List Int} {v:Int} (h1:v<l.length) (h0:0≤v):vi l v∈l:=w5 (gz h1 h0)
theorem n6 {l:List Int} {v:Int} (h:∀x∈l,aY x):aY (vi l v):=by
 unfold vi;cases e:l[v.toNat]? with
 |none=>exact ⟨by decide,by decide⟩
 |some x=>exact h x (w5 e)
theorem jI {s:GS} {a:Int} (h0:0≤a) (h1:a<s.y.length):s.y[a.toNat]?=some (dw s a):=by
 unfold dw;rw[qt (by omega)];rfl
theorem pH {s:GS} {a:Int} (h0:0≤a) (h1:a<s.y.length):dw s a∈s.y:=w5 (jI h0 h1)
theorem iC {α:Type} {l:List α} {n:Nat} {a x:α} (h:x∈l.set n a):x∈l∨x=a:=List.mem_or_eq_of_mem_set h
theorem bE.stI {f:ab} {s:GS} (h:bE f s) {d v:Int} (hv:aY v):bE f (stI s d v):=
 ⟨by simp[Go.Proofs.YtbbonnfjealmpaaGreatDoor.stI,h.li],h.lb,h.la,fun x hx=>(iC hx).elim (h.i64 x) (fun e=>e▸hv),h.arr,h.ls,h.lr,h.r64,h.lt,h.b0,h.b1,h.pc⟩
theorem bE.stB {f:ab} {s:GS} (h:bE f s) {d:Int} {v:Bool}:bE f (stB s d v):=
 ⟨h.li,by simp[Go.Proofs.YtbbonnfjealmpaaGreatDoor.stB,h.lb],h.la,h.i64,h.arr,h.ls,h.lr,h.r64,h.lt,h.b0,h.b1,h.pc⟩
theorem bE.stA {f:ab} {s:GS} (h:bE f s) {d v:Int} (hv:-1≤v∧v<s.y.length):bE f (stA s d v):=
 ⟨h.li,h.lb,by simp[Go.Proofs.YtbbonnfjealmpaaGreatDoor.stA,h.la],h.i64,fun x hx=>(iC hx).elim (h.arr x) (fun e=>e▸hv),h.ls,h.lr,h.r64,h.lt,h.b0,h.b1,h.pc⟩
theorem bE.stop {f:ab} {s:GS} (h:bE f s) (e:Int):bE f (d7 s e):=⟨h.li,h.lb,h.la,h.i64,h.arr,h.ls,h.lr,h.r64,h.lt,h.b0,h.b1,h.pc⟩
theorem bE.trap {f:ab} {s:GS} (h:bE f s) (t:Int):bE f (Iy s t):=⟨h.li,h.lb,h.la,h.i64,h.arr,h.ls,h.lr,h.r64,h.lt,h.b0,h.b1,h.pc⟩
theorem bE.bump {f:ab} {s:GS} (h:bE f s) (t:Nat):bE f (n4 s t):=⟨h.li,h.lb,h.la,h.i64,h.arr,h.ls,h.lr,h.r64,h.lt,h.b0,h.b1,h.pc⟩
theorem Nf {f:ab} {s:GS} (h:bE f s) {v:Int} (h1:v<f.v.length) (h0:0≤v):-1≤vi s.arrs v∧vi s.arrs v<s.y.length:=
 h.arr _ (Nd (by rw[h.la];exact h1) h0)
theorem jJ {f:ab} {s:GS} (h:bE f s) {v:Int} (hn:v<f.v.length∧0≤v):-1≤vi s.arrs v∧vi s.arrs v<s.y.length:=Nf h hn.1 hn.2
theorem lD {s:GS} {a i:Int}:dK s a i=true↔0≤a∧a<s.y.length∧0≤i∧i<(dw s a).length:=by unfold dK;rw[wi]
theorem sL (x:Int):aY (IntKind.i64.wrap x):=by
 rw[lS];unfold aY;omega
theorem Ng (a b:Int):aY (qY a b):=by
 unfold qY;split
 ·exact ⟨by decide,by decide⟩
 exact sL _
theorem bz {f:ab} {v:Int} (h:bn f v=true):v<f.v.length∧0≤v:=by
 unfold bn at h;simp at h;exact ⟨h.2,h.1⟩
theorem dT.a0 {f:ab} {x:aB} (h:dT f x) (hl:0<x.args.length):dH x<f.v.length∧0≤dH x:=by
 unfold dH;rw[qt hl];exact bz (h.args _ (qx hl))
theorem dT.a1 {f:ab} {x:aB} (h:dT f x) (hl:1<x.args.length):fw x<f.v.length∧0≤fw x:=by
 unfold fw;rw[qt hl];exact bz (h.args _ (qx hl))
theorem dT.a2 {f:ab} {x:aB} (h:dT f x) (hl:2<x.args.length):Cq x<f.v.length∧0≤Cq x:=by
 unfold Cq;rw[qt hl];exact bz (h.args _ (qx hl))
theorem Nh:∀j:Nat,j<27→(aW (j:Int)).length=([0,1,2,2,2,2,2,2,2,2,1,2,1,2,3,1,0,1,2,1,1,2,2,2,1,2,2][j]?).getD 0:=by decide
theorem dT.argc {f:ab} {x:aB} (h:dT f x):x.args.length=([0,1,2,2,2,2,2,2,2,2,1,2,1,2,3,1,0,1,2,1,1,2,2,2,1,2,2][x.op.toNat]?).getD 0:=by
 have h1:=h.op;obtain ⟨j,e⟩:∃j:Nat,x.op=(j:Int):=⟨x.op.toNat,by omega⟩;rw[h.len,e,Nh j (by omega),Int.toNat_natCast]
theorem Dm:∀j:Nat,j<27→bF (j:Int)=([true,true,true,true,true,true,true,true,true,true,true,true,true,true,false,true,true,false,false,false,false,false,false,false,false,true,true][j]?).getD false:=by decide
theorem dT.made {f:ab} {x:aB} (h:dT f x) (hm:([true,true,true,true,true,true,true,true,true,true,true,true,true,true,false,true,true,false,false,false,false,false,false,false,false,true,true][x.op.toNat]?).getD false=true):x.dst<f.v.length∧0≤x.dst:=by
 have h1:=h.op;obtain ⟨j,e⟩:∃j:Nat,x.op=(j:Int):=⟨x.op.toNat,by omega⟩;rw[e,Int.toNat_natCast,←Dm j (by omega),←e] at hm;rcases h.dst with g|g
 ·rw[g.1] at hm;cases hm
 exact bz g.2.2
theorem bE.doG {f:ab} {s:GS} (h:bE f s) {x:aB} (hx:dT f x) (h64:aY x.num):bE f (doG s x):=by
 have hc:=hx.argc;have st:∀e,bE f (d7 s e):=h.stop;have wr:∀d v,bE f (Go.Proofs.YtbbonnfjealmpaaGreatDoor.stI s d (IntKind.i64.wrap v)):=fun _ _=>h.stI (sL _);have bo:∀d v,bE f (Go.Proofs.YtbbonnfjealmpaaGreatDoor.stB s d v):=fun _ _=>h.stB;unfold Go.Proofs.YtbbonnfjealmpaaGreatDoor.doG
 by_cases e:x.op=0
 ·rw[if_pos e];exact h.stI h64
 rw[if_neg e];clear e
 by_cases e:x.op=1∨x.op=25∨x.op=26
 ·rw[if_pos e];refine bE.stA (s:=Go.Proofs.YtbbonnfjealmpaaGreatDoor.stB (Go.Proofs.YtbbonnfjealmpaaGreatDoor.stI s x.dst (aG s x)) x.dst (pG s x)) (h.stI (n6 h.i64)).stB ?_;exact jJ h (hx.a0 (by rcases e with e|e|e<;>(rw[e] at hc;rw[hc];decide)))
 rw[if_neg e];clear e
 by_cases e:x.op=2
 ·rw[if_pos e];exact wr _ _
 rw[if_neg e];clear e
 by_cases e:x.op=3
 ·rw[if_pos e];exact wr _ _
 rw[if_neg e];clear e
 by_cases e:x.op=4
 ·rw[if_pos e];exact wr _ _
 rw[if_neg e];clear e
 by_cases e:x.op=5
 ·rw[if_pos e];split
  ·exact st 2
  exact wr _ _
 rw[if_neg e];clear e
 by_cases e:x.op=6
 ·rw[if_pos e];split
  ·exact st 2
  exact h.stI (Ng _ _)
 rw[if_neg e];clear e
 by_cases e:x.op=7
 ·rw[if_pos e];exact bo _ _
 rw[if_neg e];clear e
 by_cases e:x.op=8
 ·rw[if_pos e];exact bo _ _
 rw[if_neg e];clear e
 by_cases e:x.op=9
 ·rw[if_pos e];exact bo _ _
 rw[if_neg e];clear e
 by_cases e:x.op=10
 ·rw[if_pos e];exact bo _ _
 rw[if_neg e];clear e
 by_cases e:x.op=11
 ·rw[if_pos e];exact bo _ _
 rw[if_neg e];clear e
 by_cases e:x.op=12
 ·rw[if_pos e];split
  ·exact st 2
  rename_i hr;have hl:=h.lr _ (pH (by omega) (jJ h (hx.a0 (by rw[e] at hc;rw[hc];decide))).2:dw s (rG s x)∈s.y);exact h.stI ⟨by omega,by omega⟩
 rw[if_neg e];clear e
 by_cases e:x.op=13
 ·rw[if_pos e];split
  ·rename_i hp;obtain ⟨h1,h2,_⟩:=lD.1 hp;exact h.stI (n6 (h.r64 _ (pH h1 h2)))
  exact st 2
 rw[if_neg e];clear e
 by_cases e:x.op=14
 ·rw[if_pos e];split
  ·rename_i hp;obtain ⟨h1,h2,_⟩:=lD.1 hp;refine ⟨h.li,h.lb,h.la,h.i64,fun y hy=>by simpa using h.arr y hy,by simpa using h.ls,fun r hr=>?_,fun r hr=>?_,h.lt,h.b0,h.b1,h.pc⟩
   ·rcases iC hr with hr|hr
    ·exact h.lr r hr
    rw[hr,List.length_set];exact h.lr _ (pH h1 h2)
   rcases iC hr with hr|hr
   ·exact h.r64 r hr
   intro y hy;rw[hr] at hy;rcases iC hy with hy|hy
   ·exact h.r64 _ (pH h1 h2) y hy
   rw[hy];exact n6 h.i64
  exact st 2
 rw[if_neg e];clear e
 by_cases e:x.op=15
 ·rw[if_pos e];split
  ·exact st 2
  rename_i ha;split
  ·exact st 3
  rename_i hs;refine bE.stA (s:={ s with y:=s.y++[List.replicate (aG s x).toNat 0] }) ⟨h.li,h.lb,h.la,h.i64,fun y hy=>?_,?_,fun r hr=>?_,fun r hr=>?_,h.lt,h.b0,h.b1,h.pc⟩ ?_
  ·have:=h.arr y hy;simp only[qz,List.length_singleton];omega
  ·simp only[qz,List.length_singleton];omega
  ·rcases List.mem_append.1 hr with hr|hr
   ·exact h.lr r hr
   rw[List.mem_singleton.1 hr,List.length_replicate];omega
  ·rcases List.mem_append.1 hr with hr|hr
   ·exact h.r64 r hr
   intro y hy;rw[List.mem_singleton.1 hr] at hy;rw[(List.mem_replicate.1 hy).2];exact ⟨by decide,by decide⟩
  simp only[qz,List.length_singleton];omega
 rw[if_neg e];clear e
 by_cases e:x.op=16
 ·rw[if_pos e];exact h.stA ⟨by omega,by omega⟩
 rw[if_neg e];clear e;split
 ·exact st 3
 rename_i ht;exact ⟨h.li,h.lb,h.la,h.i64,h.arr,h.ls,h.lr,h.r64,by simp only[qz,List.length_singleton];omega,h.b0,h.b1,h.pc⟩
theorem bE.inst {f:ab} {s:GS} (h:bE f s) {x:aB} (hx:dT f x) (h64:aY x.num):bE f (bc s x):=by
 unfold bc;split
 ·split
  ·exact h.bump _
  exact (h.bump _).trap _
 exact h.doG hx h64
structure qZ (f:ab):Prop where
 pos:0<f.q.length
 p:∀b∈f.q,∀p∈b.p,tB f p
 s:∀b∈f.q,∀x∈b.s,dT f x∧aY x.num
 t:∀b∈f.q,bP f b.t=true
theorem dY {f:ab} {b:Int} (h0:0≤b) (h1:b<f.q.length):f.q[b.toNat]?=some (aQ f b):=by
 unfold aQ;rw[qt (by omega)];rfl
theorem cU {f:ab} {b:Int} (h0:0≤b) (h1:b<f.q.length):aQ f b∈f.q:=w5 (dY h0 h1)
theorem re {p:dh} {b:Int} (h:0≤dz p b):dz p b∈p.args:=by
 unfold dz at h ⊢;cases e:(p.w.zip p.args).find? fun q=>decide (q.1=b) with
 |none=>rw[e] at h;simp at h
 |some q=>exact (List.of_mem_zip (List.mem_of_find?_eq_some e)).2
theorem bE.assign {f:ab} {s t:GS} (h:bE f s) (ht:bE f t) (ha:t.y=s.y) {p:dh} (hp:tB f p) (h0:0≤dz p s.blk):bE f (assign s t p)∧(assign s t p).y=s.y:=by
 have hv:=bz (List.all_eq_true.1 hp.2.2.2.1 _ (re h0));refine ⟨bE.stA (s:=Go.Proofs.YtbbonnfjealmpaaGreatDoor.stB (Go.Proofs.YtbbonnfjealmpaaGreatDoor.stI t p.dst _) p.dst _) (ht.stI (n6 h.i64)).stB ?_,ha⟩;show _∧_<(t.y.length:Int);rw[ha];exact jJ h hv
theorem bE.assigns {f:ab} {s:GS} (h:bE f s):∀(l:List dh) (t:GS),bE f t→t.y=s.y→(∀p∈l,tB f p∧0≤dz p s.blk)→bE f (l.foldl (Go.Proofs.YtbbonnfjealmpaaGreatDoor.assign s) t)
 |[],t,ht,_,_=>ht
 |p::l,t,ht,ha,hl=>by
  obtain ⟨h1,h2⟩:=h.assign ht ha (hl p (.head _)).1 (hl p (.head _)).2;exact h.assigns l _ h1 h2 fun q hq=>hl q (.tail _ hq)
theorem bE.goG {f:ab} {s:GS} (h:bE f s) {dst_:Int} (h0:0≤dst_) (h1:dst_<f.q.length):bE f (goG s dst_):=⟨h.li,h.lb,h.la,h.i64,h.arr,h.ls,h.lr,h.r64,h.lt,h0,h1,qw _⟩
theorem bE.enter {f:ab} {s:GS} (hR:qZ f) (h:bE f s) {dst_:Int} (h0:0≤dst_) (h1:dst_<f.q.length):bE f (fC f s dst_):=by
 unfold fC;split
 ·rename_i ha;exact (h.assigns _ s h rfl fun p hp=>⟨hR.p _ (cU h0 h1) p hp,wg (List.all_eq_true.1 ha p hp)⟩).goG h0 h1
 exact (h.goG h0 h1).stop 2
theorem yB {f:ab} {t:fJ} (h:bP f t=true) (hk:¬t.kind=2):(0≤t.to0∧t.to0<f.q.length)∧(¬t.kind=0→t.kind=1∧(0≤t.to1∧t.to1<f.q.length)):=by
 unfold bP at h;split at h
 ·rename_i e;simp only[wc,eQ,wi] at h;exact ⟨h.1.1,fun g=>absurd e g⟩
 split at h
 ·rename_i e;simp only[wc,eQ,wi] at h;exact ⟨h.1.2,fun _=>⟨e,h.2⟩⟩
 simp[hk] at h
theorem ma {f:ab} (hR:qZ f) {s:GS} (h:bE f s) (hk:¬(aQ f s.blk).t.kind=2):0≤gn f s∧gn f s<f.q.length:=by
 have ht:=yB (hR.t _ (cU h.b0 h.b1)) hk;unfold gn;split
 ·exact ht.1
 rename_i e;exact (ht.2 fun g=>e (.inl g)).2
theorem bE.up {f:ab} {s:GS} (h:bE f s) (n:Nat) (v:Int):bE f { s with st:=n,val:=v }:=⟨h.li,h.lb,h.la,h.i64,h.arr,h.ls,h.lr,h.r64,h.lt,h.b0,h.b1,h.pc⟩
theorem bE.step {f:ab} (hR:qZ f) {s:GS} (h:bE f s):bE f (bx f s):=by
 unfold bx;split
 ·rename_i x hx;obtain ⟨hi,h64⟩:=hR.s _ (cU h.b0 h.b1) x (w5 hx);obtain ⟨hp,_⟩:=List.getElem?_eq_some_iff.1 hx;exact bE.inst (s:={ s with pc:=s.pc+1,st:=s.st+1 }) ⟨h.li,h.lb,h.la,h.i64,h.arr,h.ls,h.lr,h.r64,h.lt,h.b0,h.b1,hp⟩ hi h64
 split
 ·exact (h.up _ _).stop 0
 rename_i hk;obtain ⟨h0,h1⟩:=ma hR h hk;exact bE.enter hR (s:={ s with st:=s.st+1 }) (h.up _ s.val) h0 h1
theorem iQ {α:Type} {P:α→Prop} {c:Prop} [Decidable c] {a b:α} (h1:c→P a) (h2:¬c→P b):P (if c then a else b):=by
 split
 ·exact h1 (by assumption)
 exact h2 (by assumption)
theorem EI {P:GS→Prop} (s:GS) (x:aB) (h1:∀e,P (d7 s e)) (h2:∀v,P (stI s x.dst v)) (h3:∀v,P (stB s x.dst v)) (h4:∀v,P (stA s x.dst v)) (h5:∀a b c,P (stA (stB (stI s x.dst a) x.dst b) x.dst c)) (h6:∀A,P { s with y:=A })
  (h7:∀A v,P (stA { s with y:=A } x.dst v)) (h8:∀t,P { s with trace:=t }):P (doG s x):=by
 unfold doG;refine iQ (P:=P) (fun _=>h2 _) fun _=>iQ (P:=P) (fun _=>h5 _ _ _) fun _=>iQ (P:=P) (fun _=>h2 _) fun _=>iQ (P:=P) (fun _=>h2 _) fun _=>iQ (P:=P) (fun _=>h2 _) fun _=>
  iQ (P:=P) (fun _=>iQ (P:=P) (fun _=>h1 _) fun _=>h2 _) fun _=>iQ (P:=P) (fun _=>iQ (P:=P) (fun _=>h1 _) fun _=>h2 _) fun _=>iQ (P:=P) (fun _=>h3 _) fun _=>iQ (P:=P) (fun _=>h3 _) fun _=>iQ (P:=P) (fun _=>h3 _) fun _=>
  iQ (P:=P) (fun _=>h3 _) fun _=>iQ (P:=P) (fun _=>h3 _) fun _=>iQ (P:=P) (fun _=>iQ (P:=P) (fun _=>h1 _) fun _=>h2 _) fun _=>iQ (P:=P) (fun _=>iQ (P:=P) (fun _=>h2 _) fun _=>h1 _) fun _=>iQ (P:=P) (fun _=>iQ (P:=P) (fun _=>h6 _) fun _=>h1 _) fun _=>
  iQ (P:=P) (fun _=>iQ (P:=P) (fun _=>h1 _) fun _=>iQ (P:=P) (fun _=>h1 _) fun _=>h7 _ _) fun _=>iQ (P:=P) (fun _=>h4 _) fun _=>iQ (P:=P) (fun _=>h1 _) fun _=>h8 _
theorem La (s:GS) (x:aB):(bc s x).st=s.st:=by
 unfold bc;split
 ·split<;>rfl
 exact EI (P:=fun t=>t.st=s.st) s x (fun _=>rfl) (fun _=>rfl) (fun _=>rfl) (fun _=>rfl) (fun _ _ _=>rfl) (fun _=>rfl) (fun _ _=>rfl) (fun _=>rfl)
theorem Lb (s:GS) (x:aB) (i:Nat):(bc s x).ck i≤s.ck i+1:=by
 unfold bc;split
 ·split
  ·show (if i=_ then s.ck i+1 else s.ck i)≤_;split<;>omega
  show (if i=_ then s.ck i+1 else s.ck i)≤_;split<;>omega
 exact EI (P:=fun t=>t.ck i≤s.ck i+1) s x (fun _=>Nat.le_succ _) (fun _=>Nat.le_succ _) (fun _=>Nat.le_succ _) (fun _=>Nat.le_succ _) (fun _ _ _=>Nat.le_succ _) (fun _=>Nat.le_succ _) (fun _ _=>Nat.le_succ _) (fun _=>Nat.le_succ _)
theorem pI (s:GS):∀(l:List dh) (t:GS),(l.foldl (assign s) t).st=t.st∧(l.foldl (assign s) t).ck=t.ck∧(l.foldl (assign s) t).ended=t.ended
 |[],_=>⟨rfl,rfl,rfl⟩
 |p::l,t=>pI s l (assign s t p)
theorem uD (f:ab) (s:GS) (dst_:Int):(fC f s dst_).st=s.st∧(fC f s dst_).ck=s.ck:=by
 unfold fC;split
 ·obtain ⟨h1,h2,_⟩:=pI s (aQ f dst_).p s;exact ⟨h1,h2⟩
 exact ⟨rfl,rfl⟩
theorem Lc (f:ab) (s:GS):(bx f s).st=s.st+1:=by
 unfold bx;split
 ·rw[La]
 split
 ·rfl
 rw[(uD f _ _).1]
theorem Ld (f:ab) (s:GS) (i:Nat):(bx f s).ck i≤s.ck i+1:=by
 unfold bx;split
 ·exact Lb _ _ i
 split
 ·exact Nat.le_succ _
 rw[(uD f _ _).2];exact Nat.le_succ _
def gA (f:ab) (i:vM) (q:Dl × Nat):Bool:=decide (nJ f q.2=2∧(q.1.arr < -1∨(i.y.length:Int)≤q.1.arr))
def eH (f:ab) (i:vM):Int:=if ¬i.args.length=f.z.length then 1 else if i.args.zipIdx.any (gA f i)=true then 1 else if 32<i.y.length then 4 else if i.y.any (fun r=>decide (64<r.length))=true then 4 else 0
def yC (i:vM):Prop:=(∀a∈i.args,aY a.int)∧∀r∈i.y,∀x∈r,aY x
theorem Bm {α β:Type} {g:Nat→α→β} {d:β} {n:Nat} {l:List α} {x:β} (h:x∈eD g d n l):(∃j a,l[j]?=some a∧x=g j a)∨x=d:=by
 unfold eD at h;rcases List.mem_append.1 h with h|h
 ·obtain ⟨⟨a,j⟩,hm,rfl⟩:=List.mem_map.1 h;exact .inl ⟨j,a,List.mk_mem_zipIdx_iff_getElem?.1 hm,rfl⟩
 exact .inr (List.mem_replicate.1 h).2
theorem bE.beg {f:ab} {i:vM} (hR:qZ f) (hp:f.z.length≤f.v.length) (ht:∀j,0≤nJ f j∧nJ f j≤2) (h:eH f i=0) (h64:yC i):bE f (lB f i)∧i.args.length≤f.v.length:=by
 unfold eH at h;split at h
 ·cases h
 rename_i h1;split at h
 ·cases h
 rename_i h2;split at h
 ·cases h
 rename_i h3;split at h
 ·cases h
 rename_i h4;have h1:i.args.length=f.z.length:=Classical.not_not.1 h1;have hr:∀r∈i.y,r.length≤64:=fun r hr=>by
  refine Classical.byContradiction fun hn=>h4 (List.any_eq_true.2 ⟨r,hr,wa (by omega)⟩)
 have hl:i.args.length≤f.v.length:=by omega
 have hf:∀{β:Type} (g:Nat→Dl→β) (d:β),(eD g d f.v.length i.args).length=f.v.length:=fun g d=>by unfold eD;simp;omega
 refine ⟨⟨hf _ _,hf _ _,hf _ _,fun x hx=>?_,fun x hx=>?_,by show i.y.length≤40;omega,fun r h=>Nat.le_trans (hr r h) (by omega),h64.2,qw _,Int.le_refl _,by show (0:Int)<f.q.length;have:=hR.pos;omega,qw _⟩,hl⟩
 ·rcases Bm hx with ⟨j,a,ha,rfl⟩|rfl
  ·unfold vO;split
   ·exact h64.1 a (w5 ha)
   exact ⟨by decide,by decide⟩
  exact ⟨by decide,by decide⟩
 show _∧_<(i.y.length:Int);rcases Bm hx with ⟨j,a,ha,rfl⟩|rfl
 ·unfold uC;split
  ·exact ⟨by omega,by omega⟩
  split
  ·exact ⟨by omega,by omega⟩
  have:=ht j;have hb:¬gA f i (a,j)=true:=fun hb=>h2 (List.any_eq_true.2 ⟨(a,j),w5 (i:=j) (by rw[List.getElem?_zipIdx,ha];simp),hb⟩);unfold gA at hb;simp only[wi] at hb;have h2':nJ f j=2:=by omega
  omega
 exact ⟨by omega,by omega⟩
def V (s:GS) (v:Int):Int × Bool × Int:=(vi s.ints v,gb s.bools v,vi s.arrs v)
theorem my {l:List Int} {d v x:Int} (h0:0≤d) (g0:0≤v) (hne:v≠d):vi (l.set d.toNat x) v=vi l v:=by
 unfold vi;rw[List.getElem?_set_ne (by omega)]
theorem jE {l:List Int} {d x:Int} (h0:0≤d) (h1:d<l.length):vi (l.set d.toNat x) d=x:=by
 unfold vi;rw[List.getElem?_set_self (by omega)];rfl
theorem uE {l:List Bool} {d v:Int} {x:Bool} (h0:0≤d) (g0:0≤v) (hne:v≠d):gb (l.set d.toNat x) v=gb l v:=by
 unfold gb;rw[List.getElem?_set_ne (by omega)]
theorem Bn {l:List Bool} {d:Int} {x:Bool} (h0:0≤d) (h1:d<l.length):gb (l.set d.toNat x) d=x:=by
 unfold gb;rw[List.getElem?_set_self (by omega)];rfl
inductive Act where
 |stop (e:Int)
 |i (v:Int)
 |b (v:Bool)
 |a (v:Int)
 |all (v:Int × Bool × Int)
 |row (l:List (List Int))
 |new (l:List (List Int)) (v:Int)
 |out (l:List Int)
def Dn (s:GS) (d:Int):Act→GS
 |.stop e=>d7 s e
 |.i v=>stI s d v
 |.b v=>stB s d v
 |.a v=>stA s d v
 |.all v=>stA (stB (stI s d v.1) d v.2.1) d v.2.2
 |.row l=>{ s with y:=l }
 |.new l v=>stA { s with y:=l } d v
 |.out l=>{ s with trace:=l }
def sq (s:GS) (x:aB):Act:=
 if x.op=0 then .i x.num
 else if x.op=1∨x.op=25∨x.op=26 then .all (aG s x,pG s x,rG s x)
 else if x.op=2 then .i (IntKind.i64.wrap (iH 0 (aG s x) (bG s x)))
 else if x.op=3 then .i (IntKind.i64.wrap (iH 1 (aG s x) (bG s x)))
 else if x.op=4 then .i (IntKind.i64.wrap (iH 2 (aG s x) (bG s x)))
 else if x.op=5 then (if bG s x=0 then .stop 2 else .i (vN (aG s x) (bG s x)))
 else if x.op=6 then (if bG s x=0 then .stop 2 else .i (qY (aG s x) (bG s x)))
 else if x.op=7 then .b (decide (aG s x=bG s x))
 else if x.op=8 then .b (decide (aG s x<bG s x))
 else if x.op=9 then .b (decide (aG s x≤bG s x))
 else if x.op=10 then .b (!pG s x)
 else if x.op=11 then .b (pG s x&&qG s x)
 else if x.op=12 then (if rG s x<0 then .stop 2 else .i ((dw s (rG s x)).length))
 else if x.op=13 then (if dK s (rG s x) (bG s x)=true then .i (vi (dw s (rG s x)) (bG s x)) else .stop 2)
 else if x.op=14 then (if dK s (rG s x) (bG s x)=true then .row (s.y.set (rG s x).toNat ((dw s (rG s x)).set (bG s x).toNat (vi s.ints (Cq x)))) else .stop 2)
 else if x.op=15 then (if aG s x<0∨64<aG s x then .stop 2 else if 32≤s.y.length then .stop 3 else .new (s.y++[List.replicate (aG s x).toNat 0]) s.y.length)
 else if x.op=16 then .a (-1)
 else (if 4096≤s.trace.length then .stop 3 else .out (s.trace++[aG s x]))
theorem Le {s:GS} {d:Int} {c:Prop} [Decidable c] {p q:GS} {u v:Act} (h1:c→p=Dn s d u) (h2:¬c→q=Dn s d v):(if c then p else q)=Dn s d (if c then u else v):=by
 by_cases h:c
 ·rw[if_pos h,if_pos h];exact h1 h
 rw[if_neg h,if_neg h];exact h2 h
theorem rg (s:GS) (x:aB):doG s x=Dn s x.dst (sq s x):=by
 unfold doG sq
 repeat' (first|rfl|refine Le (fun _=>?_) (fun _=>?_))
structure Iz (s t:GS) (x y:aB):Prop where
 op:x.op=y.op
 num:x.num=y.num
 a0:0<x.args.length→V s (dH x)=V t (dH y)
 a1:1<x.args.length→V s (fw x)=V t (fw y)
 a2:2<x.args.length→V s (Cq x)=V t (Cq y)
theorem Iz.reads {s t:GS} {x y:aB} (h:Iz s t x y):(0<x.args.length→aG s x=aG t y∧pG s x=pG t y∧rG s x=rG t y)∧(1<x.args.length→bG s x=bG t y∧qG s x=qG t y)∧(2<x.args.length→vi s.ints (Cq x)=vi t.ints (Cq y)):=
 ⟨fun hl=>by have:=h.a0 hl;unfold V at this;simp only[Prod.mk.injEq] at this;exact this,fun hl=>by have:=h.a1 hl;unfold V at this;simp only[Prod.mk.injEq] at this;exact ⟨this.1,this.2.1⟩,fun hl=>by have:=h.a2 hl;unfold V at this;simp only[Prod.mk.injEq] at this;exact this.1⟩
theorem Bo {s t:GS} (ha:s.y=t.y) (a i:Int):dK s a i=dK t a i:=by unfold dK dw;rw[ha]
theorem Gg {s t:GS} (ha:s.y=t.y) (a:Int):dw s a=dw t a:=by unfold dw;rw[ha]
set_option maxRecDepth 4000 in
theorem NT {f:ab} {s t:GS} {x y:aB} (hF:dT f x) (ho:¬(18≤x.op∧x.op≤24)) (h:Iz s t x y) (ha:s.y=t.y) (htr:s.trace=t.trace):sq s x=sq t y:=by
 obtain ⟨r0,r1,r2⟩:=h.reads;have hc:=hF.argc;have hop:=hF.op;unfold sq;simp only[←h.op,←h.num,←Bo ha,←Gg ha,←ha,←htr];obtain ⟨j,hj⟩:∃j:Nat,x.op=(j:Int):=⟨x.op.toNat,by omega⟩;rw[hj] at hc ho;rw[hj];have:j=0∨j=1∨j=2∨j=3∨j=4∨j=5∨j=6∨j=7∨j=8∨j=9∨j=10∨j=11∨j=12∨j=13∨j=14∨j=15∨j=16∨j=17∨j=25∨j=26:=by omega
 rcases this with rfl|rfl|rfl|rfl|rfl|rfl|rfl|rfl|rfl|rfl|rfl|rfl|rfl|rfl|rfl|rfl|rfl|rfl|rfl|rfl
 all_goals
  have hc:x.args.length=_:=hc;simp only[Int.toNat_natCast,List.getElem?_cons_zero,List.getElem?_cons_succ,Option.getD_some] at hc
  first
  |(rw[(r0 (by omega)).1,(r0 (by omega)).2.1,(r0 (by omega)).2.2,(r1 (by omega)).1,(r1 (by omega)).2,r2 (by omega)];done)
  |(rw[(r0 (by omega)).1,(r0 (by omega)).2.1,(r0 (by omega)).2.2,(r1 (by omega)).1,(r1 (by omega)).2];done)
  |(simp[(r0 (by omega)).1,(r0 (by omega)).2.1,(r0 (by omega)).2.2,(r1 (by omega)).1,(r1 (by omega)).2,r2 (by omega)];done)
  |(simp[(r0 (by omega)).1,(r0 (by omega)).2.1,(r0 (by omega)).2.2,(r1 (by omega)).1,(r1 (by omega)).2];done)
  |(simp[(r0 (by omega)).1,(r0 (by omega)).2.1,(r0 (by omega)).2.2];done)
  |simp
theorem yD {s:GS} {d:Int} {A:Act} {v:Int} (h:0≤d) (h0:0≤v) (hne:v≠d):V (Dn s d A) v=V s v:=by
 cases A<;>unfold V Dn<;>simp only[d7,stI,stB,stA,my h h0 hne,uE h h0 hne]
theorem Gh {f:ab} {s:GS} {x:aB} (hF:dT f x) (ho:¬(18≤x.op∧x.op≤24)) (hd:x.dst<0):(∃e,sq s x=.stop e)∨(∃l,sq s x=.row l)∨∃l,sq s x=.out l:=by
 have hop:=hF.op;obtain ⟨j,hj⟩:∃j:Nat,x.op=(j:Int):=⟨x.op.toNat,by omega⟩;have hm:bF x.op=false:=by
  rcases hF.dst with h|⟨_,_,h⟩
  ·exact h.1
  have:=(bz h).2;omega
 rw[hj,Dm j (by omega)] at hm;have:j=14∨j=17:=by
  rw[hj] at ho;have:j=0∨j=1∨j=2∨j=3∨j=4∨j=5∨j=6∨j=7∨j=8∨j=9∨j=10∨j=11∨j=12∨j=13∨j=14∨j=15∨j=16∨j=17∨j=25∨j=26:=by omega
  rcases this with h|h|h|h|h|h|h|h|h|h|h|h|h|h|h|h|h|h|h|h
  all_goals (subst h;first|(exact absurd hm (by decide))|omega)
 unfold sq;rw[hj];rcases this with rfl|rfl
 ·simp;by_cases h:dK s (rG s x) (bG s x)=true<;>simp[h]
 simp;by_cases h:4096≤s.trace.length<;>simp[h]
theorem Lf {s:GS} {d:Int} {A:Act} (h:(∃e,A=.stop e)∨(∃l,A=.row l)∨∃l,A=.out l) (v:Int):V (Dn s d A) v=V s v:=by
 rcases h with ⟨_,rfl⟩|⟨_,rfl⟩|⟨_,rfl⟩<;>rfl
theorem oO (s t:GS) (p:dh):assign s t p=Dn t p.dst (.all (V s (dz p s.blk))):=rfl
theorem IA {s t:GS} {p:dh} {n:Nat} (h0:0≤p.dst) (h1:p.dst<n) (l:t.ints.length=n∧t.bools.length=n∧t.arrs.length=n):V (assign s t p) p.dst=V s (dz p s.blk):=by
 rw[oO];unfold V Dn;simp only[stI,stB,stA];rw[jE h0 (by omega),Bn h0 (by omega),jE h0 (by omega)]
def Ov (op:Int):Bool:=decide (op=0∨(2≤op∧op≤12)∨op=16)
def Ow (op:Int):Bool:=decide (op=2∨op=4∨op=7∨op=11)
def Bp (r:Int→Int) (x:aB):aB:=⟨x.op,x.dst,x.args.map r,x.num⟩
def IB (x y:aB):Bool:=Ov x.op&&(decide (x.op=y.op∧x.num=y.num)&&(decide (x.args=y.args)||(Ow x.op&&(decide (x.args.length=2)&&decide (x.args=y.args.reverse)))))
def uF (f:ab) (i k:Nat) (x:aB):Prop:=∃b,f.q[i]?=some b∧b.s[k]?=some x
def mc (f:ab) (i k:Nat) (x:aB):Prop:=uF f i k x∧Ov x.op=true
def km (f:ab) (i' k' i k:Nat):Prop:=bI f ((i':Int),(k':Int)) i k
theorem uF.one {f:ab} {i k:Nat} {x y:aB} (h:uF f i k x) (g:uF f i k y):x=y:=by
 obtain ⟨b,h1,h2⟩:=h;obtain ⟨c,g1,g2⟩:=g;rw[h1] at g1;cases Option.some.inj g1;rw[h2] at g2;exact Option.some.inj g2
structure Ox (f:ab) (r:Int→Int):Prop where
 id:∀v,(∀i k x,mc f i k x→x.dst≠v)→r v=v
 rt:∀i k y,mc f i k y→r y.dst=y.dst∨∃i' k' x,mc f i' k' x∧km f i' k' i k∧r x.dst=x.dst∧r y.dst=x.dst∧IB (Bp r x) (Bp r y)=true
 no:∀i k y i' k' x,mc f i k y→mc f i' k' x→km f i' k' i k→r x.dst=x.dst→r y.dst=y.dst→IB (Bp r x) (Bp r y)=false
structure Pr (f:ab) (rk:Nat→Nat→Nat):Prop where
 less:∀i k y i' k' x,mc f i k y→mc f i' k' x→km f i' k' i k→rk i' k'<rk i k
 arg:∀i k y a i' k' x,mc f i k y→a∈y.args→mc f i' k' x→x.dst=a→km f i' k' i k
 total:∀i k y i1 k1 x1 i2 k2 x2,mc f i k y→mc f i1 k1 x1→mc f i2 k2 x2→km f i1 k1 i k→km f i2 k2 i k→km f i1 k1 i2 k2∨km f i2 k2 i1 k1∨(i1=i2∧k1=k2)
 trans:∀i k y i1 k1 x1 i2 k2 x2,mc f i k y→mc f i1 k1 x1→mc f i2 k2 x2→km f i1 k1 i2 k2→km f i2 k2 i k→km f i1 k1 i k
 made:∀i k y i1 k1 x1,mc f i k y→mc f i1 k1 x1→x1.dst=y.dst→i1=i∧k1=k
theorem cQ {E:Int→List Int} {n:Nat} (hG:gx E n) {a b:Int} (h:g9 E a b) (k:g9 E b a):a=b:=by
 have hb:b∈aI E n:=(b9 hG.toEOk b).2 h.1;have ha:a∈aI E n:=(b9 hG.toEOk a).2 k.1;have l1:=hG.lev_anc hb ((hG.dom_iff hb).1 h);have l2:=hG.lev_anc ha ((hG.dom_iff ha).1 k);exact l1.2.2 l2.2.1
def Av (f:ab) (b k:Int) (v:Int):Prop:=bI f (aE f v) b k
section
variable {f:ab} (hE:cK f)
include hE
theorem NU {m p:lk} (h1:bI f m p.1 p.2) (h2:bI f p m.1 m.2) (h0:0≤m.1) (g0:0≤p.1):False:=by
 rcases h1 with h1|⟨e1,l1⟩|⟨_,n1,d1⟩
 ·omega
 ·rcases h2 with h2|⟨e2,l2⟩|⟨_,n2,d2⟩
  ·omega
  ·omega
  exact n2 e1.symm
 rcases h2 with h2|⟨e2,l2⟩|⟨_,n2,d2⟩
 ·omega
 ·exact n1 e2.symm
 exact n1 (cQ hE.grph d1 d2)
theorem fV {m p:lk} {b k:Int} (h1:bI f m p.1 p.2) (h2:bI f p b k) (g0:0≤p.1):bI f m b k:=by
 rcases h1 with h1|⟨e1,l1⟩|⟨h0,n1,d1⟩
 ·exact .inl h1
 ·rcases h2 with h2|⟨e2,l2⟩|⟨_,n2,d2⟩
  ·omega
  ·exact .inr (.inl ⟨by omega,by omega⟩)
  exact .inr (.inr ⟨by omega,by omega,by rw[e1];exact d2⟩)
 rcases h2 with h2|⟨e2,l2⟩|⟨_,n2,d2⟩
 ·omega
 ·exact .inr (.inr ⟨h0,by omega,by rw[←e2];exact d1⟩)
 refine .inr (.inr ⟨h0,fun e=>?_,d1.trans d2⟩);have:=cQ hE.grph d1 (by rw[e];exact d2);exact n1 this
omit hE in
theorem IC {m:lk} {b k k':Int} (h:bI f m b k) (hk:k≤k'):bI f m b k':=by
 rcases h with h|⟨h1,h2⟩|h
 ·exact .inl h
 ·exact .inr (.inl ⟨h1,by omega⟩)
 exact .inr (.inr h)
omit hE in
theorem uG {m:lk} {b k:Int}:bI f m b (k+1)↔bI f m b k∨(m.1=b∧m.2=k):=by
 constructor
 ·rintro (h|⟨h1,h2⟩|h)
  ·exact .inl (.inl h)
  ·by_cases e:m.2=k
   ·exact .inr ⟨h1,e⟩
   exact .inl (.inr (.inl ⟨h1,by omega⟩))
  exact .inl (.inr (.inr h))
 rintro (h|⟨h1,h2⟩)
 ·exact IC h (by omega)
 exact .inr (.inl ⟨h1,by omega⟩)
omit hE in
theorem uH {m:lk} {b c:Int} (hb:oV (aj f) b) (hc:c∈aj f b) {k:Int} (hk:k≤0) (h:bI f m c k) (hL:m.1=b→m.2<eM f b) (hm:m.1=c→k≤m.2):bI f m b (eM f b):=by
 rcases h with h|⟨h1,h2⟩|⟨h0,h1,h2⟩
 ·exact .inl h
 ·have:=hm h1;omega
 have hd:=h2.pred hb hc h1
 by_cases e:m.1=b
 ·exact .inr (.inl ⟨e,hL e⟩)
 exact .inr (.inr ⟨h0,e,hd⟩)
end
theorem iR {f:ab} {v:Int} (h:0≤(aE f v).1):∃(i:Nat) (b:aF),f.q[i]?=some b∧(aE f v).1=i∧((∃p∈b.p,p.dst=v∧(aE f v).2=-1)∨∃(k:Nat) (x:aB),b.s[k]?=some x∧x.dst=v∧(aE f v).2=k):=by
 obtain ⟨i,b,h1,h2⟩:=iN h;refine ⟨i,b,h1,?_,?_⟩
 ·rcases h2 with ⟨p,_,_,e⟩|⟨k,x,_,_,e⟩<;>rw[e]
 rcases h2 with ⟨p,h3,h4,e⟩|⟨k,x,h3,h4,e⟩
 ·exact .inl ⟨p,h3,h4,by rw[e]⟩
 exact .inr ⟨k,x,h3,h4,by rw[e]⟩
structure Ni (f:ab):Prop where
 inst:∀(i k:Nat) (b:aF) (x:aB),f.q[i]?=some b→b.s[k]?=some x→0≤x.dst→aE f x.dst=((i:Int),(k:Int))
 phi:∀(i:Nat) (b:aF) (p:dh),f.q[i]?=some b→p∈b.p→aE f p.dst=((i:Int),-1)
theorem EJ {f:ab} (ho:mV f) (hi:∀b∈f.q,∀x∈b.s,x.dst<f.v.length) (hp:∀b∈f.q,∀p∈b.p,0≤p.dst∧p.dst<f.v.length):Ni f:=by
 have len:∀d:Int,0≤d→d<f.v.length→(aZ f d).length≤1:=fun d h0 h1=>by
  have:=(ho d.toNat (by omega)).1
  rwa [show ((d.toNat:Nat):Int)=d by omega] at this
 refine ⟨fun i k b x h1 h2 h0=>?_,fun i b p h1 h2=>?_⟩
 ·exact lz (len _ h0 (hi b (w5 h1) x (w5 h2))) (de.2 ⟨i,b,h1,d8.2 (.inr ⟨k,x,h2,rfl,rfl⟩)⟩)
 obtain ⟨g0,g1⟩:=hp b (w5 h1) p h2;exact lz (len _ g0 g1) (de.2 ⟨i,b,h1,d8.2 (.inl ⟨p,h2,rfl,rfl⟩)⟩)
theorem lE {f:ab} {i:Nat} {b:aF} (h:f.q[i]?=some b):eM f (i:Int)=b.s.length:=by
 unfold eM;rw[show ((i:Int)).toNat=i from rfl,h];rfl
structure KS where
 l:List Ot
 p:List (Int × List Int)
section
variable (f:ab)
def eN (v:Int):Option aB:=if 0≤(aE f v).1∧0≤(aE f v).2 then (f.q[(aE f v).1.toNat]?).bind fun b=>b.s[(aE f v).2.toNat]? else none
structure uI where
 a:Int
 b:Int
 n:Int
end
section
variable {u:Int→Int}
end
set_option linter.unusedSectionVars false
section
variable {l:List Ot} {n:Nat} {b:Int} (hl:∀q∈l,Nc n q) (hb:Ou n b)
include hb
include hl
end
end
section
open Go.Proofs.Tryz
structure PX (s:GS) (x:aB):Prop where
 ck:18≤x.op→x.op≤24→fU s x.op x.args=true
 i0:x.op=0→vi s.ints x.dst=x.num
 i1:x.op=1→V s x.dst=V s (dH x)
 i2:x.op=2→vi s.ints x.dst=IntKind.i64.wrap (iH 0 (aG s x) (bG s x))
 i3:x.op=3→vi s.ints x.dst=IntKind.i64.wrap (iH 1 (aG s x) (bG s x))
 i5:x.op=5→bG s x≠0∧vi s.ints x.dst=vN (aG s x) (bG s x)
 i6:x.op=6→bG s x≠0∧vi s.ints x.dst=qY (aG s x) (bG s x)
 i7:x.op=7→gb s.bools x.dst=decide (aG s x=bG s x)
 i8:x.op=8→gb s.bools x.dst=decide (aG s x<bG s x)
 i9:x.op=9→gb s.bools x.dst=decide (aG s x≤bG s x)
 i10:x.op=10→gb s.bools x.dst=!pG s x
 i11:x.op=11→gb s.bools x.dst=(pG s x&&qG s x)
 i12:x.op=12→0≤rG s x∧vi s.ints x.dst=(dw s (rG s x)).length
 i15:x.op=15→0≤vi s.arrs x.dst∧((dw s (vi s.arrs x.dst)).length:Int)=aG s x
 i16:x.op=16→vi s.arrs x.dst=-1
 i4:x.op=4→vi s.ints x.dst=IntKind.i64.wrap (iH 2 (aG s x) (bG s x))
 i25:x.op=25→V s x.dst=V s (dH x)
 i26:x.op=26→V s x.dst=V s (dH x)
theorem dT.cnt {f:ab} {x:aB} {k:Int} (h:dT f x) (e:x.op=k):x.args.length=([0,1,2,2,2,2,2,2,2,2,1,2,1,2,3,1,0,1,2,1,1,2,2,2,1,2,2][k.toNat]?).getD 0:=e▸h.argc
structure uJ (s t:GS) (x:aB):Prop where
 hd:0≤x.dst→V t x.dst=V s x.dst
 ha:∀v∈x.args,V t v=V s v
 hr:∀a:Int,0≤a→a<s.y.length→a<t.y.length∧(dw t a).length=(dw s a).length
theorem mI {s t:GS} {v:Int} (h:V t v=V s v):vi t.ints v=vi s.ints v∧gb t.bools v=gb s.bools v∧vi t.arrs v=vi s.arrs v:=by
 unfold V at h;simp only[Prod.mk.injEq] at h;exact h
section
variable {f:ab} {s t:GS} {x:aB}
theorem uJ.e0 (h:uJ s t x) (hl:0<x.args.length):aG t x=aG s x∧pG t x=pG s x∧rG t x=rG s x:=by
 have hm:dH x∈x.args:=by unfold dH;rw[qt hl];exact qx hl
 exact mI (h.ha _ hm)
theorem uJ.e1 (h:uJ s t x) (hl:1<x.args.length):bG t x=bG s x∧qG t x=qG s x:=by
 have hm:fw x∈x.args:=by unfold fw;rw[qt hl];exact qx hl
 exact ⟨(mI (h.ha _ hm)).1,(mI (h.ha _ hm)).2.1⟩
theorem dT.d {k:Int} (hF:dT f x) (e:x.op=k) (hm:([true,true,true,true,true,true,true,true,true,true,true,true,true,true,false,true,true,false,false,false,false,false,false,false,false,true,true][k.toNat]?).getD false=true):x.dst<f.v.length∧0≤x.dst:=hF.made (e▸hm)
theorem Do (hs:bE f s) (ht:bE f t) (h:uJ s t x) {v i:Int} (hv:v<f.v.length∧0≤v):dK t (vi s.arrs v) i=dK s (vi s.arrs v) i:=by
 have ha:=jJ hs hv;unfold dK
 by_cases h0:0≤vi s.arrs v
 ·obtain ⟨g1,g2⟩:=h.hr _ h0 ha.2;rw[g2];simp only[h0,g1,ha.2,true_and]
 simp[h0]
theorem Gi (hs:bE f s) (ht:bE f t) (hF:dT f x) (h1:18≤x.op) (h2:x.op≤24) (h:uJ s t x):fU t x.op x.args=fU s x.op x.args:=by
 have hl:0<x.args.length:=by
  obtain ⟨j,hj⟩:∃j:Nat,x.op=(j:Int):=⟨x.op.toNat,by omega⟩;rw[hF.argc,hj];have:j=18∨j=19∨j=20∨j=21∨j=22∨j=23∨j=24:=by omega
  rcases this with rfl|rfl|rfl|rfl|rfl|rfl|rfl<;>decide
 obtain ⟨e1,e2,e3⟩:=h.e0 hl;have e1:vi t.ints ((x.args[0]?).getD 0)=vi s.ints ((x.args[0]?).getD 0):=e1;have e3:vi t.arrs ((x.args[0]?).getD 0)=vi s.arrs ((x.args[0]?).getD 0):=e3;have e4:yZ x.args t.ints=yZ x.args s.ints:=by
  unfold yZ;split
  ·rename_i h1;exact (h.e1 h1).1
  rfl
 have e5:dK t (vi s.arrs ((x.args[0]?).getD 0)) (yZ x.args s.ints)=dK s (vi s.arrs ((x.args[0]?).getD 0)) (yZ x.args s.ints):=Do hs ht h (hF.a0 hl);unfold fU;rw[e1,e3,e4,e5]
theorem PX.same (hs:bE f s) (ht:bE f t) (hF:dT f x) (h:uJ s t x) (p:PX s x):PX t x:=by
 have row:∀{v:Int},v<f.v.length∧0≤v→0≤vi s.arrs v→(dw t (vi s.arrs v)).length=(dw s (vi s.arrs v)).length:=fun hv h0=>(h.hr _ h0 (jJ hs hv).2).2
 constructor
 ·intro h1 h2;rw[Gi hs ht hF h1 h2 h];exact p.ck h1 h2
 ·intro e;rw[(mI (h.hd (hF.d e rfl).2)).1];exact p.i0 e
 ·intro e;have hm:dH x∈x.args:=by unfold dH;rw[qt (by rw[hF.cnt e];decide)];exact qx _
  rw[h.hd (hF.d e rfl).2,h.ha _ hm];exact p.i1 e
 ·intro e;rw[(mI (h.hd (hF.d e rfl).2)).1,(h.e0 (by rw[hF.cnt e];decide)).1,(h.e1 (by rw[hF.cnt e];decide)).1];exact p.i2 e
 ·intro e;rw[(mI (h.hd (hF.d e rfl).2)).1,(h.e0 (by rw[hF.cnt e];decide)).1,(h.e1 (by rw[hF.cnt e];decide)).1];exact p.i3 e
 ·intro e;rw[(mI (h.hd (hF.d e rfl).2)).1,(h.e0 (by rw[hF.cnt e];decide)).1,(h.e1 (by rw[hF.cnt e];decide)).1];exact p.i5 e
 ·intro e;rw[(mI (h.hd (hF.d e rfl).2)).1,(h.e0 (by rw[hF.cnt e];decide)).1,(h.e1 (by rw[hF.cnt e];decide)).1];exact p.i6 e
 ·intro e;rw[(mI (h.hd (hF.d e rfl).2)).2.1,(h.e0 (by rw[hF.cnt e];decide)).1,(h.e1 (by rw[hF.cnt e];decide)).1];exact p.i7 e
 ·intro e;rw[(mI (h.hd (hF.d e rfl).2)).2.1,(h.e0 (by rw[hF.cnt e];decide)).1,(h.e1 (by rw[hF.cnt e];decide)).1];exact p.i8 e
 ·intro e;rw[(mI (h.hd (hF.d e rfl).2)).2.1,(h.e0 (by rw[hF.cnt e];decide)).1,(h.e1 (by rw[hF.cnt e];decide)).1];exact p.i9 e
 ·intro e;rw[(mI (h.hd (hF.d e rfl).2)).2.1,(h.e0 (by rw[hF.cnt e];decide)).2.1];exact p.i10 e
 ·intro e;rw[(mI (h.hd (hF.d e rfl).2)).2.1,(h.e0 (by rw[hF.cnt e];decide)).2.1,(h.e1 (by rw[hF.cnt e];decide)).2];exact p.i11 e
 ·intro e;rw[(mI (h.hd (hF.d e rfl).2)).1,(h.e0 (by rw[hF.cnt e];decide)).2.2];obtain ⟨h0,h1⟩:=p.i12 e;refine ⟨h0,?_⟩;unfold rG at h0 ⊢;rw[row (hF.a0 (by rw[hF.cnt e];decide)) h0];exact h1
 ·intro e;rw[(mI (h.hd (hF.d e rfl).2)).2.2,(h.e0 (by rw[hF.cnt e];decide)).1];obtain ⟨h0,h1⟩:=p.i15 e;exact ⟨h0,by rw[row (hF.d e rfl) h0];exact h1⟩
 ·intro e;rw[(mI (h.hd (hF.d e rfl).2)).2.2];exact p.i16 e
 ·intro e;rw[(mI (h.hd (hF.d e rfl).2)).1,(h.e0 (by rw[hF.cnt e];decide)).1,(h.e1 (by rw[hF.cnt e];decide)).1];exact p.i4 e
 ·intro e;have hm:dH x∈x.args:=by unfold dH;rw[qt (by rw[hF.cnt e];decide)];exact qx _
  rw[h.hd (hF.d e rfl).2,h.ha _ hm];exact p.i25 e
 intro e;have hm:dH x∈x.args:=by unfold dH;rw[qt (by rw[hF.cnt e];decide)];exact qx _
 rw[h.hd (hF.d e rfl).2,h.ha _ hm];exact p.i26 e
theorem Lg {s:GS} {l:List Int} {d:Int}:dw (stA { s with y:=s.y++[l] } d s.y.length) (s.y.length:Int)=l:=by
 unfold dw stA;simp
theorem PX.made (hs:bE f s) (hF:dT f x) (h0:s.ended=false) (he:(bc s x).ended=false) (hne:∀v∈x.args,v≠x.dst):PX (bc s x) x:=by
 have n0:0<x.args.length→dH x≠x.dst∧0≤dH x:=fun hl=>⟨hne _ (by unfold dH;rw[qt hl];exact qx _),(hF.a0 hl).2⟩;have n1:1<x.args.length→fw x≠x.dst∧0≤fw x:=fun hl=>⟨hne _ (by unfold fw;rw[qt hl];exact qx _),(hF.a1 hl).2⟩;have I:∀{k:Int} (w:Int),x.op=k→x.dst<f.v.length∧0≤x.dst→(0<x.args.length∧1<x.args.length)→aG (stI s x.dst w) x=aG s x∧bG (stI s x.dst w) x=bG s x∧vi (stI s x.dst w).ints x.dst=w:=fun w _ hd hl=>
  ⟨my hd.2 (n0 hl.1).2 (n0 hl.1).1,my hd.2 (n1 hl.2).2 (n1 hl.2).1,jE hd.2 (by rw[hs.li];exact hd.1)⟩
 have B:∀{k:Int} (w:Bool),x.op=k→x.dst<f.v.length∧0≤x.dst→gb (stB s x.dst w).bools x.dst=w:=fun w _ hd=>Bn hd.2 (by rw[hs.lb];exact hd.1)
 constructor
 ·intro h1 h2;unfold bc at he ⊢;rw[if_pos ⟨h1,h2⟩] at he ⊢;split at he
  ·rename_i hp;rw[if_pos hp];exact hp
  cases he
 ·intro e;have hd:=hF.d e rfl;rw[show bc s x=stI s x.dst x.num by unfold bc doG;simp[e]];exact jE hd.2 (by rw[hs.li];exact hd.1)
 ·intro e;have hd:=hF.d e rfl;obtain ⟨a1,a2⟩:=n0 (by rw[hF.cnt e];decide);rw[show bc s x=stA (stB (stI s x.dst (aG s x)) x.dst (pG s x)) x.dst (rG s x) by unfold bc doG;simp[e]];unfold V stA stB stI aG pG rG;dsimp only;rw[jE hd.2 (by rw[hs.li];exact hd.1),Bn hd.2 (by rw[hs.lb];exact hd.1),jE hd.2 (by rw[hs.la];exact hd.1),my hd.2 a2 a1,uE hd.2 a2 a1,my hd.2 a2 a1]
 ·intro e;have hd:=hF.d e rfl;rw[show bc s x=stI s x.dst (IntKind.i64.wrap (iH 0 (aG s x) (bG s x))) by unfold bc doG;simp[e]];obtain ⟨g1,g2,g3⟩:=I (IntKind.i64.wrap (iH 0 (aG s x) (bG s x))) e hd ⟨by rw[hF.cnt e];decide,by rw[hF.cnt e];decide⟩;rw[g1,g2,g3]
 ·intro e;have hd:=hF.d e rfl;rw[show bc s x=stI s x.dst (IntKind.i64.wrap (iH 1 (aG s x) (bG s x))) by unfold bc doG;simp[e]];obtain ⟨g1,g2,g3⟩:=I (IntKind.i64.wrap (iH 1 (aG s x) (bG s x))) e hd ⟨by rw[hF.cnt e];decide,by rw[hF.cnt e];decide⟩;rw[g1,g2,g3]
 ·intro e;have hd:=hF.d e rfl;have hi:bc s x=if bG s x=0 then d7 s 2 else stI s x.dst (vN (aG s x) (bG s x)):=by unfold bc doG;simp[e]
  rw[hi] at he ⊢
  by_cases hb:bG s x=0
  ·rw[if_pos hb] at he;cases he
  rw[if_neg hb];obtain ⟨g1,g2,g3⟩:=I (vN (aG s x) (bG s x)) e hd ⟨by rw[hF.cnt e];decide,by rw[hF.cnt e];decide⟩;rw[g1,g2,g3];exact ⟨hb,rfl⟩
 ·intro e;have hd:=hF.d e rfl;have hi:bc s x=if bG s x=0 then d7 s 2 else stI s x.dst (qY (aG s x) (bG s x)):=by unfold bc doG;simp[e]
  rw[hi] at he ⊢
  by_cases hb:bG s x=0
  ·rw[if_pos hb] at he;cases he
  rw[if_neg hb];obtain ⟨g1,g2,g3⟩:=I (qY (aG s x) (bG s x)) e hd ⟨by rw[hF.cnt e];decide,by rw[hF.cnt e];decide⟩;rw[g1,g2,g3];exact ⟨hb,rfl⟩
 ·intro e;rw[show bc s x=stB s x.dst (decide (aG s x=bG s x)) by unfold bc doG;simp[e]];rw[B _ e (hF.d e rfl)];rfl
 ·intro e;rw[show bc s x=stB s x.dst (decide (aG s x<bG s x)) by unfold bc doG;simp[e]];rw[B _ e (hF.d e rfl)];rfl
 ·intro e;rw[show bc s x=stB s x.dst (decide (aG s x≤bG s x)) by unfold bc doG;simp[e]];rw[B _ e (hF.d e rfl)];rfl
 ·intro e;have hd:=hF.d e rfl;obtain ⟨a1,a2⟩:=n0 (by rw[hF.cnt e];decide);rw[show bc s x=stB s x.dst (!pG s x) by unfold bc doG;simp[e]];rw[B _ e hd];unfold pG stB;dsimp only;rw[uE hd.2 a2 a1]
 ·intro e;have hd:=hF.d e rfl;obtain ⟨a1,a2⟩:=n0 (by rw[hF.cnt e];decide);obtain ⟨b1,b2⟩:=n1 (by rw[hF.cnt e];decide);rw[show bc s x=stB s x.dst (pG s x&&qG s x) by unfold bc doG;simp[e]];rw[B _ e hd];unfold pG qG stB;dsimp only;rw[uE hd.2 a2 a1,uE hd.2 b2 b1]
 ·intro e;have hd:=hF.d e rfl;have hi:bc s x=if rG s x<0 then d7 s 2 else stI s x.dst ((dw s (rG s x)).length):=by unfold bc doG;simp[e]
  rw[hi] at he ⊢
  by_cases hb:rG s x<0
  ·rw[if_pos hb] at he;cases he
  rw[if_neg hb];exact ⟨(by have:0≤rG s x:=(by omega);exact this),jE hd.2 (by rw[hs.li];exact hd.1)⟩
 ·intro e;have hd:=hF.d e rfl;obtain ⟨a1,a2⟩:=n0 (by rw[hF.cnt e];decide);have hi:bc s x=if aG s x<0∨64<aG s x then d7 s 2 else if 32≤s.y.length then d7 s 3 else stA { s with y:=s.y++[List.replicate (aG s x).toNat 0] } x.dst s.y.length:=by unfold bc doG;simp[e]
  rw[hi] at he ⊢
  by_cases hb:aG s x<0∨64<aG s x
  ·rw[if_pos hb] at he;cases he
  rw[if_neg hb] at he ⊢
  by_cases hc:32≤s.y.length
  ·rw[if_pos hc] at he;cases he
  rw[if_neg hc];have hv:vi (stA { s with y:=s.y++[List.replicate (aG s x).toNat 0] } x.dst s.y.length).arrs x.dst=s.y.length:=jE hd.2 (by rw[hs.la];exact hd.1);rw[hv,Lg,List.length_replicate];refine ⟨by omega,?_⟩;show ((aG s x).toNat:Int)=aG s x;omega
 ·intro e;have hd:=hF.d e rfl;rw[show bc s x=stA s x.dst (-1) by unfold bc doG;simp[e]];exact jE hd.2 (by rw[hs.la];exact hd.1)
 ·intro e;have hd:=hF.d e rfl;rw[show bc s x=stI s x.dst (IntKind.i64.wrap (iH 2 (aG s x) (bG s x))) by unfold bc doG;simp[e]];obtain ⟨g1,g2,g3⟩:=I (IntKind.i64.wrap (iH 2 (aG s x) (bG s x))) e hd ⟨by rw[hF.cnt e];decide,by rw[hF.cnt e];decide⟩;rw[g1,g2,g3]
 ·intro e;have hd:=hF.d e rfl;obtain ⟨a1,a2⟩:=n0 (by rw[hF.cnt e];decide);rw[show bc s x=stA (stB (stI s x.dst (aG s x)) x.dst (pG s x)) x.dst (rG s x) by unfold bc doG;simp[e]];unfold V stA stB stI aG pG rG;dsimp only;rw[jE hd.2 (by rw[hs.li];exact hd.1),Bn hd.2 (by rw[hs.lb];exact hd.1),jE hd.2 (by rw[hs.la];exact hd.1),my hd.2 a2 a1,uE hd.2 a2 a1,my hd.2 a2 a1]
 intro e;have hd:=hF.d e rfl;obtain ⟨a1,a2⟩:=n0 (by rw[hF.cnt e];decide);rw[show bc s x=stA (stB (stI s x.dst (aG s x)) x.dst (pG s x)) x.dst (rG s x) by unfold bc doG;simp[e]];unfold V stA stB stI aG pG rG;dsimp only;rw[jE hd.2 (by rw[hs.li];exact hd.1),Bn hd.2 (by rw[hs.lb];exact hd.1),jE hd.2 (by rw[hs.la];exact hd.1),my hd.2 a2 a1,uE hd.2 a2 a1,my hd.2 a2 a1]
end
def vl (f:ab) (s:GS) (v:Int):Int:=if aM f v=2 then (if vi s.arrs v<0 then 0 else ((dw s (vi s.arrs v)).length:Int)) else if aM f v=0 then vi s.ints v else 0
section
variable {f:ab} {s:GS} {K:KS}
theorem J7 {v:Int} (h:aM f v=0):vl f s v=vi s.ints v:=by unfold vl;rw[h];simp
theorem PF {v:Int} (h:aM f v=2):vl f s v=if vi s.arrs v<0 then 0 else ((dw s (vi s.arrs v)).length:Int):=by unfold vl;rw[if_pos h]
end
theorem fi:aW 2=[0,0]∧aW 3=[0,0]∧aW 5=[0,0]∧aW 6=[0,0]∧aW 7=[0,0]∧aW 8=[0,0]∧aW 9=[0,0]∧aW 10=[1]∧aW 11=[1,1]∧aW 12=[2]∧aW 15=[0]∧aW 18=[2,0]∧aW 19=[2]∧aW 20=[0]∧aW 21=[0,0]∧aW 22=[0,0]∧aW 23=[0,0]∧aW 24=[0]:=by decide
theorem ni:dq 0=0∧dq 2=0∧dq 3=0∧dq 5=0∧dq 6=0∧dq 12=0∧dq 15=2∧dq 16=2:=by decide
theorem kN:bF 0=true∧bF 2=true∧bF 3=true∧bF 5=true∧bF 6=true∧bF 12=true∧bF 15=true∧bF 16=true:=by decide
section
variable {f:ab} {x:aB}
theorem df {k:Int} {l:List Int} (hT:fl f x=true) (e:x.op=k) (h1:¬k=1) (hl:aW k=l):x.args.map (aM f)=l:=by
 unfold fl at hT;rw[if_neg (by omega),wc] at hT;rw[wg hT.1,e,hl]
theorem ID {k t:Int} (hT:fl f x=true) (e:x.op=k) (h1:¬k=1) (hm:bF k=true) (hl:dq k=t):aM f x.dst=t:=by
 unfold fl at hT;rw[if_neg (by omega),e,hm,hl] at hT;simp at hT;exact hT.2
theorem uK {a b:Int} (h:x.args.map (aM f)=[a,b]):(aM f (dH x)=a∧aM f (fw x)=b)∧∃y z,x.args=[y,z]:=by
 match hx:x.args,h with
 |[y,z],h=>
  simp only[List.map_cons,List.map_nil,List.cons.injEq,and_true] at h;unfold dH fw;rw[hx];exact ⟨h,y,z,rfl⟩
theorem Oy {a:Int} (h:x.args.map (aM f)=[a]):aM f (dH x)=a∧∃y,x.args=[y]:=by
 match hx:x.args,h with
 |[y],h=>
  simp only[List.map_cons,List.map_nil,List.cons.injEq,and_true] at h;unfold dH;rw[hx];exact ⟨h,y,rfl⟩
end
def k5 (s:GS):Prop:=∀r∈s.y,r.length≤64
section
variable {f:ab} {s:GS} {K:KS} {x:aB}
theorem IE {k:Nat} (hk:k≤2) {y z:Int} (h:fU s (21+k) [y,z]=true):dF k (vi s.ints y) (vi s.ints z):=by
 have:k=0∨k=1∨k=2:=by omega
 rcases this with rfl|rfl|rfl
 all_goals (unfold fU yZ at h;simp at h;exact h)
theorem Nj {v:Int} (h2:aM f v=2) (hs:bE f s) (h64:k5 s) (hv:v<f.v.length∧0≤v):0≤vl f s v∧vl f s v≤64:=by
 rw[PF h2];split
 ·omega
 have:=h64 _ (pH (by omega) (jJ hs hv).2);omega
end
structure iS where
 seen:List (Int × Bool)
 out:List uI
def fW (q:iS) (a b n:Int):iS:=if a=b then q else ⟨q.seen,q.out++[⟨a,b,n⟩]⟩
section
variable (f:ab)
def gY:Nat→iS→Int→Bool→iS
 |0,q,_,_=>q
 |n+1,q,c,is=>if q.seen.contains (c,is)=true then q else
  match eN f c with
  |none=>⟨q.seen++[(c,is)],q.out⟩
  |some x=>
   if x.op=10 then gY n ⟨q.seen++[(c,is)],q.out⟩ (dH x) (!is)
   else if x.op=1 then gY n ⟨q.seen++[(c,is)],q.out⟩ (dH x) is
   else if x.op=11 then (if is=true then gY n (gY n ⟨q.seen++[(c,is)],q.out⟩ (dH x) true) (fw x) true else ⟨q.seen++[(c,is)],q.out⟩)
   else if x.op=8 then (if is=true then fW ⟨q.seen++[(c,is)],q.out⟩ (dH x) (fw x) 0 else fW ⟨q.seen++[(c,is)],q.out⟩ (fw x) (dH x) 1)
   else if x.op=9 then (if is=true then fW ⟨q.seen++[(c,is)],q.out⟩ (dH x) (fw x) 1 else fW ⟨q.seen++[(c,is)],q.out⟩ (fw x) (dH x) 0)
   else if x.op=7 then (if is=true then fW ⟨q.seen++[(c,is)],q.out⟩ (dH x) (fw x) 2 else ⟨q.seen++[(c,is)],q.out⟩)
   else ⟨q.seen++[(c,is)],q.out⟩
def rh (c:Int) (is:Bool):List uI:=(gY f 100000 ⟨[],[]⟩ c is).out
def jT (i:Int):List uI:=match bm (aj f) f.q.length i with
 |[p]=>if (aQ f p).t.kind=1∧(aQ f p).t.to0≠(aQ f p).t.to1 then rh f (aQ f p).t.var (decide ((aQ f p).t.to0=i)) else[]
 |_=>[]
end
structure oa (f:ab) (s:GS) (r:uI):Prop where
 nn:0≤r.a∧0≤r.b
 lt:r.n=0→vl f s r.a<vl f s r.b
 le:r.n=1→vl f s r.a≤vl f s r.b
 eq:r.n=2→vl f s r.a=vl f s r.b
def Mc (f:ab) (s:GS) (Good:Int→Prop):Prop:=∀v y,Good v→eN f v=some y→(PX s y∧dT f y∧fl f y=true∧y.dst=v)∧∀a∈y.args,Good a
theorem IF {f:ab} {s:GS} {a b:Int} (h:0≤a∧0≤b) (g:vl f s a<vl f s b):oa f s ⟨a,b,0⟩:=⟨h,fun _=>g,fun e=>(by cases e),fun e=>(by cases e)⟩
theorem IG {f:ab} {s:GS} {a b:Int} (h:0≤a∧0≤b) (g:vl f s a≤vl f s b):oa f s ⟨a,b,1⟩:=⟨h,fun e=>(by cases e),fun _=>g,fun e=>(by cases e)⟩
theorem Nk {f:ab} {s:GS} {a b:Int} (h:0≤a∧0≤b) (g:vl f s a=vl f s b):oa f s ⟨a,b,2⟩:=⟨h,fun e=>(by cases e),fun e=>(by cases e),fun _=>g⟩
section
variable {f:ab} {s:GS} {K:KS} {Good:Int→Prop} (hG:Mc f s Good)
theorem Bq {x:aB} (hl:0<x.args.length):dH x∈x.args:=by unfold dH;rw[qt hl];exact qx hl
theorem IH {x:aB} (hl:1<x.args.length):fw x∈x.args:=by unfold fw;rw[qt hl];exact qx hl
theorem pJ {q:iS} (h:∀r∈q.out,oa f s r) {a b n:Int} (hr:oa f s ⟨a,b,n⟩):∀r∈(fW q a b n).out,oa f s r:=by
 unfold fW;split
 ·exact h
 intro r hm;rcases List.mem_append.1 hm with hm|hm
 ·exact h r hm
 rw[List.mem_singleton.1 hm];exact hr
include hG
theorem uL:∀(n:Nat) (q:iS) (c:Int) (is:Bool),(∀r∈q.out,oa f s r)→Good c→gb s.bools c=is→∀r∈(gY f n q c is).out,oa f s r
 |0,q,_,_,h,_,_=>h
 |n+1,q,c,is,h,hc,hv=>by
  unfold gY;split
  ·exact h
  split
  ·exact h
  rename_i x hx;obtain ⟨⟨hP,hF,hT,hd⟩,ha⟩:=hG c x hc hx;split
  ·rename_i e;have hl:0<x.args.length:=by rw[hF.cnt e];decide
   refine uL n ⟨_,_⟩ _ _ h (ha _ (Bq hl)) ?_;have:=hP.i10 e;rw[hd,hv] at this;show pG s x=_;cases hp:pG s x<;>rw[hp] at this<;>rw[this]<;>rfl
  split
  ·rename_i e;have hl:0<x.args.length:=by rw[hF.cnt e];decide
   refine uL n ⟨_,_⟩ _ _ h (ha _ (Bq hl)) ?_;have:=hP.i1 e;unfold V at this;simp only[Prod.mk.injEq] at this;rw[←this.2.1,hd,hv]
  split
  ·rename_i e;have hl:1<x.args.length:=by rw[hF.cnt e];decide
   split
   ·rename_i his;have hb:=hP.i11 e;rw[hd,hv,his] at hb;have hb:=(wc _ _▸hb.symm:pG s x=true∧qG s x=true);exact uL n _ _ _ (uL n ⟨_,_⟩ _ _ h (ha _ (Bq (by omega))) hb.1) (ha _ (IH hl)) hb.2
   exact h
  split
  ·rename_i e;obtain ⟨⟨k0,k1⟩,_,_,hl⟩:=uK (df hT e (by omega) fi.2.2.2.2.2.1);have hy:=hF.a0 (by simp[hl]);have hz:=hF.a1 (by simp[hl]);have hb:=hP.i8 e;rw[hd,hv] at hb;have v0:vl f s (dH x)=aG s x:=J7 k0;have v1:vl f s (fw x)=bG s x:=J7 k1;split
   ·rename_i his;rw[his] at hb;have:=wg hb.symm;exact pJ (q:=⟨q.seen++[(c,is)],q.out⟩) h (IF ⟨hy.2,hz.2⟩ (by omega))
   rename_i his;have:is=false:=by simpa using his
   rw[this] at hb;have:=wh hb.symm;exact pJ (q:=⟨q.seen++[(c,is)],q.out⟩) h (IG ⟨hz.2,hy.2⟩ (by omega))
  split
  ·rename_i e;obtain ⟨⟨k0,k1⟩,_,_,hl⟩:=uK (df hT e (by omega) fi.2.2.2.2.2.2.1);have hy:=hF.a0 (by simp[hl]);have hz:=hF.a1 (by simp[hl]);have hb:=hP.i9 e;rw[hd,hv] at hb;have v0:vl f s (dH x)=aG s x:=J7 k0;have v1:vl f s (fw x)=bG s x:=J7 k1;split
   ·rename_i his;rw[his] at hb;have:=wg hb.symm;exact pJ (q:=⟨q.seen++[(c,is)],q.out⟩) h (IG ⟨hy.2,hz.2⟩ (by omega))
   rename_i his;have:is=false:=by simpa using his
   rw[this] at hb;have:=wh hb.symm;exact pJ (q:=⟨q.seen++[(c,is)],q.out⟩) h (IF ⟨hz.2,hy.2⟩ (by omega))
  split
  ·rename_i e;obtain ⟨⟨k0,k1⟩,_,_,hl⟩:=uK (df hT e (by omega) fi.2.2.2.2.1);have hy:=hF.a0 (by simp[hl]);have hz:=hF.a1 (by simp[hl]);have hb:=hP.i7 e;rw[hd,hv] at hb;have v0:vl f s (dH x)=aG s x:=J7 k0;have v1:vl f s (fw x)=bG s x:=J7 k1;split
   ·rename_i his;rw[his] at hb;have:=wg hb.symm;exact pJ (q:=⟨q.seen++[(c,is)],q.out⟩) h (Nk ⟨hy.2,hz.2⟩ (by omega))
   exact h
  exact h
theorem II {c:Int} {is:Bool} (hc:Good c) (hv:gb s.bools c=is):∀r∈rh f c is,oa f s r:=uL hG _ _ _ _ (fun r hr=>by cases hr) hc hv
end
structure bq (f:ab):Prop where
 hT:∀b∈f.q,gX f b=true
 hS:bN f
 hE:cK f
 hs:D9 f
 hO:Ni f
 run:qZ f
structure k6 (f:ab) (s:GS):Prop where
 g:bE f s
 r64:k5 s
 un:∀v:Int,f.z.length≤v→v<f.v.length→(aE f v).1<0→vi s.ints v=0
 px:∀i k x,uF f i k x→bI f ((i:Int),(k:Int)) s.blk s.pc→PX s x
 br:∀c p,g9 (aj f) c s.blk→bm (aj f) f.q.length c=[p]→(aQ f p).t.kind=1→(aQ f p).t.to0≠(aQ f p).t.to1→gb s.bools (aQ f p).t.var=decide ((aQ f p).t.to0=c)
theorem dg {f:ab} {i:Nat} {b:aF} (h:f.q[i]?=some b):aQ f (i:Int)=b:=by unfold aQ;rw[Int.toNat_natCast,h];rfl
theorem uM {f:ab} {s:GS} {x:aB} (hF:dT f x) {v:Int} (h0:0≤v) (hne:v≠x.dst):V (bc s x) v=V s v:=by
 unfold bc;split
 ·split<;>rfl
 rename_i ho;rw[rg]
 by_cases hd:0≤x.dst
 ·exact yD hd h0 hne
 exact Lf (Gh hF ho (by omega)) v
theorem EK {P:Act→Prop} (s:GS) (x:aB) (h1:∀e:Int,e≠1→P (.stop e)) (h2:∀v,P (.i v)) (h3:∀v,P (.b v)) (h4:∀v,P (.a v)) (h5:∀v,P (.all v)) (h6:P (.row (s.y.set (rG s x).toNat ((dw s (rG s x)).set (bG s x).toNat (vi s.ints (Cq x)))))) (h7:∀k v,k≤64→P (.new (s.y++[List.replicate k 0]) v)) (h8:∀l,P (.out l)):P (sq s x):=by
 unfold sq
 repeat' (first|exact h1 _ (by decide)|exact h2 _|exact h3 _|exact h4 _|exact h5 _|exact h6|exact h8 _|(refine h7 _ _ ?_;omega)|refine iQ (fun _=>?_) (fun _=>?_))
theorem wZ {s:GS} (x:aB) {a:Int} (h0:0≤a) (h1:a<s.y.length):a<(bc s x).y.length∧(dw (bc s x) a).length=(dw s a).length:=by
 unfold bc;split
 ·split<;>exact ⟨h1,rfl⟩
 rw[rg];refine EK (P:=fun A=>a<(Dn s x.dst A).y.length∧(dw (Dn s x.dst A) a).length=(dw s a).length) s x (fun _ _=>⟨h1,U⟩) (fun _=>⟨h1,U⟩) (fun _=>⟨h1,U⟩) (fun _=>⟨h1,U⟩) (fun _=>⟨h1,U⟩) ?_ (fun k v _=>?_) (fun _=>⟨h1,U⟩)
 ·refine ⟨by show a<((s.y.set _ _).length:Int);rw[List.length_set];exact h1,?_⟩;show (((s.y.set (rG s x).toNat ((dw s (rG s x)).set (bG s x).toNat (vi s.ints (Cq x))))[a.toNat]?).getD []).length=_;rw[List.getElem?_set];split
  ·rename_i hj;split
   ·rw[Option.getD_some,List.length_set];unfold dw;rw[hj]
   omega
  rfl
 refine ⟨by show a<((s.y++[_]).length:Int);rw[qz];omega,?_⟩;show (((s.y++[_])[a.toNat]?).getD []).length=_;rw[List.getElem?_append_left (by omega)];rfl
theorem Gj {s:GS} (h:k5 s) (x:aB):k5 (bc s x):=by
 unfold bc;split
 ·split<;>exact h
 rw[rg];have hrow:∀a:Int,(dw s a).length≤64:=fun a=>by
  unfold dw;cases e:s.y[a.toNat]? with
  |none=>simp
  |some r=>exact h r (w5 e)
 refine EK (P:=fun A=>k5 (Dn s x.dst A)) s x (fun _ _=>h) (fun _=>h) (fun _=>h) (fun _=>h) (fun _=>h) (fun r hr=>?_) (fun k v hk r hr=>?_) (fun _=>h)
 ·rcases iC hr with hr|hr
  ·exact h r hr
  rw[hr,List.length_set];exact hrow _
 rcases List.mem_append.1 hr with hr|hr
 ·exact h r hr
 rw[List.mem_singleton.1 hr,List.length_replicate];exact hk
section
variable {f:ab} (hR:bq f)
include hR
theorem bq.inF {i k:Nat} {x:aB} (h:uF f i k x):dT f x∧fl f x=true:=by
 obtain ⟨b,hb,hx⟩:=h;have hbm:=w5 hb;have hxm:=w5 hx;refine ⟨fG ((hR.hS.2.2.2.2.2 b hbm).2.1 x hxm),?_⟩;have:=hR.hT b hbm;unfold gX at this;simp only[wc] at this;exact List.all_eq_true.1 this.1.2 x hxm
theorem bq.av {i k:Nat} {x:aB} (h:uF f i k x):∀v∈x.args,Av f i k v:=fun v hv=>by
 obtain ⟨b,hb,hx⟩:=h;obtain ⟨hi,e⟩:=List.getElem?_eq_some_iff.1 hb;obtain ⟨hk,e2⟩:=List.getElem?_eq_some_iff.1 hx;have:=(hR.hs.2.2.2 i hi).2.1;rw[e] at this;exact this k hk v (by rw[e2];exact hv)
theorem bq.made {i k:Nat} {x:aB} (h:uF f i k x) (h0:0≤x.dst):aE f x.dst=((i:Int),(k:Int)):=by
 obtain ⟨b,hb,hx⟩:=h;exact hR.hO.inst i k b x hb hx h0
theorem bq.noStart {x:Int}:(0:Int) ∉ aj f x:=fun hm=>by
 by_cases hx:0≤x∧x<f.q.length
 ·rw[lV hx.1 (by omega)] at hm;have:=hR.hT (f.q[x.toNat]'(by omega)) (qx _);unfold gX at this;simp only[wc] at this;have ht:=this.2
  generalize (f.q[x.toNat]'(by omega)).t=t at hm ht
  unfold cS at hm;unfold eK at ht
  by_cases h0:t.kind=0
  ·rw[if_pos h0] at hm ht;have:=List.mem_singleton.1 hm;rw[←this] at ht;simp at ht
  rw[if_neg h0] at hm ht
  by_cases h1:t.kind=1
  ·rw[if_pos h1] at hm ht;simp only[wc,Bool.not_eq_true',decide_eq_false_iff_not] at ht;split at hm
   ·have:=List.mem_singleton.1 hm;exact ht.1.2 this.symm
   rcases List.mem_cons.1 hm with e|hm
   ·exact ht.1.2 e.symm
   exact ht.2 (List.mem_singleton.1 hm).symm
  rw[if_neg h1] at hm;cases hm
 rw[fg hx] at hm;cases hm
theorem bq.pred {c p:Int} (h:bm (aj f) f.q.length c=[p]):c∈aj f p∧∀q,c∈aj f q→q=p:=by
 have key:∀q,q∈bm (aj f) f.q.length c↔c∈aj f q:=fun q=>j6 hR.hE.grph.toEOk (fun x hx=>fg hx);refine ⟨(key p).1 (by rw[h];exact .head _),fun q hq=>?_⟩;have:=(key q).2 hq;rw[h] at this;exact List.mem_singleton.1 this
theorem bq.one {c p:Int} (hc:oV (aj f) c) (h:bm (aj f) f.q.length c=[p]):c≠0∧g9 (aj f) p c∧p≠c:=by
 obtain ⟨h1,h2⟩:=hR.pred h;have h0:c≠0:=fun e=>hR.noStart (e▸h1);refine ⟨h0,g9.of_preds hc h0 fun q hq he=>?_,fun e=>?_⟩
 ·rw[h2 q he] at hq ⊢;exact .refl hq
 subst e;have:∀b,kV (aj f) (fun _=>True) 0 b→b≠p:=fun b hw=>by
  induction hw with
  |refl _=>exact fun e=>h0 e.symm
  |@step b d _ he _ ih=>exact fun e=>ih (h2 b (e▸he))
 exact this p hc rfl
theorem bq.brAv {c p:Int} (hc:oV (aj f) c) (h:bm (aj f) f.q.length c=[p]) (hk:(aQ f p).t.kind=1):Av f p (eM f p) (aQ f p).t.var∧0≤(aQ f p).t.var:=by
 obtain ⟨h1,h2⟩:=hR.pred h;have hp:0≤p∧p<f.q.length:=Classical.byContradiction fun hn=>by rw[fg hn] at h1;cases h1
 obtain ⟨j,rfl⟩:∃j:Nat,p=(j:Int):=⟨p.toNat,by omega⟩;have hj:f.q[j]?=some (f.q[j]'(by omega)):=qt (by omega);have:=(hR.hs.2.2.2 j (by omega)).2.2;rw[dg hj] at hk ⊢;rw[lE hj];refine ⟨this.resolve_left (by omega),?_⟩;have ht:=hR.run.t _ (qx (show j<f.q.length by omega));unfold bP at ht;rw[if_neg (by omega),if_pos hk] at ht;simp only[wc] at ht;exact (bz ht.1.1).2
theorem bq.brOut {c p b:Int} (hc:oV (aj f) c) (h:bm (aj f) f.q.length c=[p]) {v:Int} (hv:Av f p (eM f p) v) (hb:(aE f v).1=b) (h0:0≤b) (hd:g9 (aj f) c b):False:=by
 obtain ⟨_,h2,h3⟩:=hR.one hc h;have hG:=hR.hE.grph;rcases hv with hv|⟨e,_⟩|⟨_,_,hv⟩
 ·omega
 ·rw[←e,hb] at h2 h3;exact h3 (cQ hG h2 hd)
 rw[hb] at hv;exact h3 (cQ hG h2 (hd.trans hv))
end
theorem EL (s:GS) (x:aB):(bc s x).blk=s.blk∧(bc s x).pc=s.pc:=by
 unfold bc;split
 ·split<;>exact ⟨rfl,rfl⟩
 rw[rg];cases sq s x<;>exact ⟨rfl,rfl⟩
theorem k7 {s:GS} {v:Int} (h0:0≤v):∀(l:List dh) (t:GS),(∀p∈l,0≤p.dst∧p.dst≠v)→V (l.foldl (assign s) t) v=V t v
 |[],_,_=>rfl
 |p::l,t,h=>by
  rw[List.foldl_cons,k7 h0 l _ fun q hq=>h q (.tail _ hq),oO];exact yD (h p (.head _)).1 h0 fun e=>(h p (.head _)).2 e.symm
theorem jK (s:GS):∀(l:List dh) (t:GS),(l.foldl (assign s) t).y=t.y∧(l.foldl (assign s) t).ended=t.ended
 |[],_=>⟨rfl,rfl⟩
 |p::l,t=>by rw[List.foldl_cons];exact jK s l (assign s t p)
theorem Br (t:fJ) (g:Bool) (h:¬t.kind=0→t.kind=1):(if t.kind=0∨g=true then t.to0 else t.to1)∈cS t∧(t.kind=1→t.to0≠t.to1→g=decide (t.to0=if t.kind=0∨g=true then t.to0 else t.to1)):=by
 unfold cS
 by_cases h0:t.kind=0
 ·simp[h0]
 have h1:=h h0
 by_cases e:t.to0=t.to1
 ·simp[h1,e]
 cases g<;>simp[h1,e]
section
variable {f:ab} (hR:bq f)
include hR
theorem k6.inst {s:GS} (hI:k6 f s) (he:s.ended=false) {x:aB} (hx:(aQ f s.blk).s[s.pc]?=some x) (he':(bx f s).ended=false):k6 f (bx f s):=by
 have hg:=hI.g.step hR.run;obtain ⟨i,hi⟩:∃i:Nat,s.blk=(i:Int):=⟨s.blk.toNat,by have:=hI.g.b0;omega⟩;have hil:i<f.q.length:=by have:=hI.g.b1;omega
 have hb:=qt hil;have hat:uF f i s.pc x:=⟨_,hb,by rw[hi,dg hb] at hx;exact hx⟩;obtain ⟨hF,hTx⟩:=hR.inF hat;have hst:bx f s=bc { s with pc:=s.pc+1,st:=s.st+1 } x:=by unfold bx;rw[hx]
 obtain ⟨s0,hs0⟩:∃s0:GS,{ s with pc:=s.pc+1,st:=s.st+1 }=s0:=⟨_,rfl⟩;have e0:s0.ended=false∧s0.blk=s.blk∧s0.pc=s.pc+1∧s0.y=s.y∧(∀v,V s0 v=V s v):=by rw[←hs0];exact ⟨he,rfl,rfl,rfl,fun _=>rfl⟩
 have g0:bE f s0:=by
  rw[←hs0];have:=hI.g;exact ⟨this.li,this.lb,this.la,this.i64,this.arr,this.ls,this.lr,this.r64,this.lt,this.b0,this.b1,(List.getElem?_eq_some_iff.1 hx).1⟩
 rw[hs0] at hst;rw[hst] at hg he' ⊢;obtain ⟨p1,p2⟩:=EL s0 x;have hV:∀v:Int,0≤v→v≠x.dst→V (bc s0 x) v=V s v:=fun v h0 h1=>by rw[uM hF h0 h1];exact e0.2.2.2.2 v
 have mk:∀v:Int,0≤v→v=x.dst→aE f v=((i:Int),(s.pc:Int)):=fun v h0 e=>by rw[e];exact hR.made hat (by omega)
 have avn:∀v:Int,0≤v→Av f s.blk s.pc v→v≠x.dst:=fun v h0 ha e=>by
  unfold Av at ha;rw[mk v h0 e,hi] at ha;rcases ha with h|⟨_,h⟩|⟨_,h,_⟩
  ·dsimp only at h;omega
  ·dsimp only at h;omega
  exact h rfl
 refine ⟨hg,Gj (s:=s0) (by unfold k5;rw[e0.2.2.2.1];exact hI.r64) x,fun v h1 h2 h3=>?_,fun j k y hy ha=>?_,fun c p hd hp hk ht=>?_⟩
 ·have h0:0≤v:=by omega
  have hne:v≠x.dst:=fun e=>by rw[mk v h0 e] at h3;dsimp only at h3;omega
  have:=hV v h0 hne;unfold V at this;simp only[Prod.mk.injEq] at this;rw[this.1];exact hI.un v h1 h2 h3
 ·rw[p1,p2,e0.2.1,e0.2.2.1,hi] at ha;obtain ⟨hFy,_⟩:=hR.inF hy
  by_cases hjk:(j:Int)=(i:Int)∧(k:Int)=(s.pc:Int)
  ·have ej:j=i:=by omega
   have ek:k=s.pc:=by omega
   subst ej ek;have:y=x:=hy.one hat;subst this;refine PX.made g0 hF e0.1 he' fun v hv=>?_;have h0:=(bz (hF.args v hv)).2;exact avn v h0 (by rw[hi];exact hR.av hat v hv)
  have ha':bI f ((j:Int),(k:Int)) s.blk s.pc:=by
   rw[hi];rcases uG.1 (show bI f ((j:Int),(k:Int)) (i:Int) ((s.pc:Int)+1) from ha) with h|h
   ·exact h
   exact absurd h hjk
  have hP:=hI.px j k y hy ha';refine PX.same hI.g hg hFy ⟨fun h0=>?_,fun v hv=>?_,fun a h0 h1=>?_⟩ hP
  ·refine hV _ h0 fun e=>hjk ?_;have h1:=hR.made hy h0;rw[mk _ h0 e] at h1;simp only[Prod.mk.injEq] at h1;exact ⟨h1.1.symm,h1.2.symm⟩
  ·have h0:=(bz (hFy.args v hv)).2;refine hV v h0 (avn v h0 ?_);exact fV (p:=((j:Int),(k:Int))) hR.hE (hR.av hy v hv) ha' (by dsimp only;omega)
  have:=wZ (s:=s0) x h0 (by rw[e0.2.2.2.1];exact h1);refine ⟨this.1,this.2.trans ?_⟩;unfold dw;rw[e0.2.2.2.1]
 rw[p1,e0.2.1] at hd;have hc:=hd.rch;obtain ⟨hav,h0⟩:=hR.brAv hc hp hk;have hne:(aQ f p).t.var≠x.dst:=fun e=>hR.brOut hc hp hav (b:=s.blk) (by rw[mk _ h0 e,hi]) hI.g.b0 hd;have:=hV _ h0 hne;unfold V at this;simp only[Prod.mk.injEq] at this;rw[this.2.1];exact hI.br c p hd hp hk ht
theorem k6.t {s:GS} (hI:k6 f s) (he:s.ended=false) (hx:(aQ f s.blk).s[s.pc]?=none) (he':(bx f s).ended=false):k6 f (bx f s):=by
 have hg:=hI.g.step hR.run;obtain ⟨i,hi⟩:∃i:Nat,s.blk=(i:Int):=⟨s.blk.toNat,by have:=hI.g.b0;omega⟩;have hil:i<f.q.length:=by have:=hI.g.b1;omega
 have hb:=qt hil;have hbm:=qx hil;have hpc:(s.pc:Int)=eM f s.blk:=by
  have h1:=hI.g.pc;have h2:=List.getElem?_eq_none_iff.1 hx;rw[hi,lE hb];rw[hi,dg hb] at h1 h2;omega
 have hk:¬(aQ f s.blk).t.kind=2:=fun h=>by
  unfold bx at he';rw[hx] at he';dsimp only at he';rw[if_pos h] at he';cases he'
 have hst:bx f s=fC f { s with st:=s.st+1 } (gn f s):=by
  unfold bx;rw[hx];dsimp only;rw[if_neg hk]
 obtain ⟨s0,hs0⟩:∃s0:GS,{ s with st:=s.st+1 }=s0:=⟨_,rfl⟩;have e0:s0.ended=false∧s0.blk=s.blk∧s0.y=s.y∧(∀v,V s0 v=V s v):=by rw[←hs0];exact ⟨he,rfl,rfl,fun _=>rfl⟩
 have htm:=hR.run.t _ (cU hI.g.b0 hI.g.b1);have hends:aj f s.blk=cS (aQ f s.blk).t:=by rw[hi,lU hil,dg hb]
 obtain ⟨t0',t1'⟩:=yB htm hk;obtain ⟨c,hcn⟩:∃c,gn f s=c:=⟨_,rfl⟩;have hmem:c∈aj f s.blk∧((aQ f s.blk).t.kind=1→(aQ f s.blk).t.to0≠(aQ f s.blk).t.to1→gb s.bools (aQ f s.blk).t.var=decide ((aQ f s.blk).t.to0=c)):=by
  rw[hends,←hcn];exact Br _ _ fun h0=>(t1' h0).1
 obtain ⟨hce,hbv⟩:=hmem;have hcr:0≤c∧c<f.q.length:=by
  have:=ma hR.run hI.g hk;rw[hcn] at this;exact this
 obtain ⟨to,rfl⟩:∃to:Nat,c=(to:Int):=⟨c.toNat,by omega⟩;have htl:to<f.q.length:=by omega
 have hcb:=qt htl;rw[hcn,hs0] at hst;rw[hst] at hg he' ⊢;unfold fC at hg he' ⊢;split at he'
 case isFalse=>cases he'
 rename_i hall;rw[if_pos hall] at hg ⊢;rw[dg hcb] at hg ⊢;have hph:∀p∈(f.q[to]'htl).p,0≤p.dst∧aE f p.dst=((to:Int),-1):=fun p hp=>by
  have:=hR.run.p _ (qx htl) p hp;exact ⟨(bz this.1).2,hR.hO.phi to _ p hcb hp⟩
 have hV:∀v:Int,0≤v→¬aE f v=((to:Int),-1)→V (goG ((f.q[to]'htl).p.foldl (assign s0) s0) to) v=V s v:=fun v h0 h1=>by
  show V ((f.q[to]'htl).p.foldl (assign s0) s0) v=_;rw[k7 h0 _ _ fun p hp=>⟨(hph p hp).1,fun e=>h1 (by rw[←e];exact (hph p hp).2)⟩];exact e0.2.2.2 v
 have har:(goG ((f.q[to]'htl).p.foldl (assign s0) s0) to).y=s.y:=(jK s0 _ _).1.trans e0.2.2.1;have hrch:oV (aj f) (to:Int):=hR.hs.2.1 to htl;have hirch:oV (aj f) s.blk:=by rw[hi];exact hR.hs.2.1 i hil
 have hG:=hR.hE.grph;refine ⟨hg,by unfold k5;rw[har];exact hI.r64,fun v h1 h2 h3=>?_,fun j k y hy ha=>?_,fun d p hd hp hk1 ht=>?_⟩
 ·have:=hV v (by omega) (fun e=>by rw[e] at h3;dsimp only at h3;omega);unfold V at this;simp only[Prod.mk.injEq] at this;rw[this.1];exact hI.un v h1 h2 h3
 ·have ha:bI f ((j:Int),(k:Int)) (to:Int) 0:=ha;obtain ⟨hFy,_⟩:=hR.inF hy;have hjt:(j:Int)≠(to:Int)∧g9 (aj f) (j:Int) (to:Int):=by
   rcases ha with h|⟨_,h⟩|⟨_,h,h'⟩
   ·dsimp only at h;omega
   ·dsimp only at h;omega
   exact ⟨h,h'⟩
  have ha':bI f ((j:Int),(k:Int)) s.blk s.pc:=by
   rw[hpc];refine uH hirch hce (k:=0) (by omega) ha (fun e=>?_) (fun _=>by dsimp only;omega);obtain ⟨B,h1,h2⟩:=hy;dsimp only at e ⊢;rw[←e,lE h1];have:=(List.getElem?_eq_some_iff.1 h2).1;omega
  have hP:=hI.px j k y hy ha';refine PX.same hI.g hg hFy ⟨fun h0=>?_,fun v hv=>?_,fun a h0 h1=>?_⟩ hP
  ·refine hV _ h0 fun e=>?_;rw[hR.made hy h0] at e;simp only[Prod.mk.injEq] at e;omega
  ·have h0:=(bz (hFy.args v hv)).2;refine hV v h0 fun e=>?_;have hv:=hR.av hy v hv;unfold Av at hv;rw[e] at hv;rcases hv with h|⟨h,_⟩|⟨_,_,h⟩
   ·dsimp only at h;omega
   ·exact hjt.1 h.symm
   exact hjt.1 (cQ hG hjt.2 h)
  refine ⟨by rw[har];exact h1,?_⟩;unfold dw;rw[har]
 have hd:g9 (aj f) d (to:Int):=hd;have hdr:=hd.rch;obtain ⟨hav,h0⟩:=hR.brAv hdr hp hk1;have hne:¬aE f (aQ f p).t.var=((to:Int),-1):=fun e=>hR.brOut hdr hp hav (b:=(to:Int)) (by rw[e]) (by omega) hd;have:=hV _ h0 hne;unfold V at this;simp only[Prod.mk.injEq] at this;rw[this.2.1]
 by_cases e:d=(to:Int)
 ·subst e;have:=(hR.pred hp).2 s.blk hce;rw[←this] at hk1 ht ⊢;exact hbv hk1 ht
 exact hI.br d p (hd.pred hirch hce e) hp hk1 ht
theorem k6.step {s:GS} (hI:k6 f s) (he:s.ended=false) (he':(bx f s).ended=false):k6 f (bx f s):=by
 cases h:(aQ f s.blk).s[s.pc]? with
 |none=>exact hI.t hR he h he'
 |some x=>exact hI.inst hR he h he'
end
theorem sM {f:ab} {v:Int} {y:aB} (h:eN f v=some y):∃j k:Nat,uF f j k y∧y.dst=v∧aE f v=((j:Int),(k:Int)):=by
 unfold eN at h;split at h
 ·rename_i h0;obtain ⟨i,b,h1,h2,h3⟩:=iR h0.1;rcases h3 with ⟨_,_,_,h4⟩|⟨k,x,h4,h5,h6⟩
  ·omega
  rw[h2,h6,Int.toNat_natCast,Int.toNat_natCast,h1] at h;have h:b.s[k]?=some y:=h;rw[h4] at h;cases h;exact ⟨i,k,⟨b,h1,h4⟩,h5,Prod.ext h2 h6⟩
 cases h
section
variable {f:ab} (hR:bq f)
include hR
end
structure KB (f:ab) (K:KS):Prop where
 fac:∀q∈K.l,Nc (f.v.length+1) q∧(-EH≤q.c∧q.c≤EH)
 len:K.l.length≤8192
def Bs (f:ab) (v:Int):Prop:=0≤v∧v≤f.v.length
section
variable {f:ab} {K:KS}
theorem IJ {v:Int} (h:v<f.v.length∧0≤v):Bs f v:=⟨h.2,by omega⟩
end
def EM (f:ab) (v:Int):Nat:=if 0≤(aE f v).1∧0≤(aE f v).2 then (gi (cM (aj f) f.q.length) (aE f v).1).toNat*1025+(aE f v).2.toNat+1 else 0
theorem EN:∀(l:List aF) (b:aF),b∈l→b.s.length≤eu l
 |c::l,b,h=>by
  have e:eu (c::l)=c.p.length+c.s.length+eu l:=by unfold eu;simp
  rcases List.mem_cons.1 h with rfl|h
  ·omega
  have:=EN l b h;omega
section
variable {f:ab} (hR:bq f)
include hR
theorem bq.s {i k:Nat} {x:aB} (h:uF f i k x):k<1024∧i<f.q.length:=by
 obtain ⟨b,hb,hx⟩:=h;have h1:=EN _ _ (w5 hb);have h2:=hR.hS.2.2.2.2.1;have h3:=(List.getElem?_eq_some_iff.1 hx).1;exact ⟨by omega,(List.getElem?_eq_some_iff.1 hb).1⟩
theorem bq.nblk:f.q.length≤64:=by
 have h:=hR.hS.1;unfold nP at h;simp only[Bool.or_eq_false_iff,decide_eq_false_iff_not] at h;omega
theorem bq.lev {i:Nat} (hi:i<f.q.length):0≤gi (cM (aj f) f.q.length) (i:Int)∧gi (cM (aj f) f.q.length) (i:Int)<f.q.length:=by
 have hG:=hR.hE.grph;have hm:=(b9 hG.toEOk (i:Int)).2 (hR.hs.2.1 i hi);have:=hG.lev_nn hm;have:=CH hG hm;have:=hG.at_lt hm;have:=gH hG;omega
theorem bq.rk_arg {v:Int} {y:aB} (h:eN f v=some y):∀a∈y.args,EM f a<EM f v:=fun a ha=>by
 obtain ⟨j,k,hat,hd,hm⟩:=sM h;have hav:=hR.av hat a ha;have hG:=hR.hE.grph;have ev:EM f v=(gi (cM (aj f) f.q.length) (j:Int)).toNat*1025+k+1:=by
  unfold EM;rw[hm,if_pos ⟨by dsimp only;omega,by dsimp only;omega⟩];rfl
 rw[ev];unfold EM;split
 ·rename_i h0;obtain ⟨i,b,h1,h2,h3⟩:=iR h0.1;rcases h3 with ⟨_,_,_,h4⟩|⟨q,x,h4,h5,h6⟩
  ·omega
  have hat2:uF f i q x:=⟨b,h1,h4⟩;have hb:=hR.s hat2;unfold Av at hav;have hm2:aE f a=((i:Int),(q:Int)):=Prod.ext h2 h6;rw[hm2] at hav ⊢;have l1:=hR.lev hb.2;have l2:=hR.lev (hR.s hat).2;rcases hav with g|⟨g1,g2⟩|⟨_,g1,g2⟩
  ·dsimp only at g;omega
  ·dsimp only at g1 g2 ⊢;rw[g1,Int.toNat_natCast];omega
  dsimp only at g1 g2 ⊢;have hmj:=(b9 hG.toEOk (j:Int)).2 g2.1;have hla:=hG.lev_anc hmj ((hG.dom_iff hmj).1 g2);have:gi (cM (aj f) f.q.length) (i:Int)<gi (cM (aj f) f.q.length) (j:Int):=by
   rcases Int.lt_or_le (gi (cM (aj f) f.q.length) (i:Int)) (gi (cM (aj f) f.q.length) (j:Int)) with h|h
   ·exact h
   exact absurd (hla.2.2 h) g1
  rw[Int.toNat_natCast];omega
 omega
theorem bq.rk_low (v:Int):EM f v<100000:=by
 unfold EM;split
 ·rename_i h0;obtain ⟨i,b,h1,h2,h3⟩:=iR h0.1;rcases h3 with ⟨_,_,_,h4⟩|⟨q,x,h4,h5,h6⟩
  ·omega
  have hat2:uF f i q x:=⟨b,h1,h4⟩;have hb:=hR.s hat2;have l1:=hR.lev hb.2;have:=hR.nblk;rw[h2,h6,Int.toNat_natCast];omega
 omega
theorem bq.madeF {v:Int} {y:aB} (h:eN f v=some y):dT f y∧fl f y=true∧y.dst=v:=by
 obtain ⟨j,k,hat,hd,_⟩:=sM h;exact ⟨(hR.inF hat).1,(hR.inF hat).2,hd⟩
def Gk (f:ab) (r:uI):Prop:=(Bs f r.a∧Bs f r.b)∧(0≤r.n∧r.n≤2)
omit hR in
theorem uN {q:iS} (h:∀r∈q.out,Gk f r) {a b n:Int} (hr:Gk f ⟨a,b,n⟩):∀r∈(fW q a b n).out,Gk f r:=by
 unfold fW;split
 ·exact h
 intro r hm;rcases List.mem_append.1 hm with hm|hm
 ·exact h r hm
 rw[List.mem_singleton.1 hm];exact hr
theorem Bt:∀(n:Nat) (q:iS) (c:Int) (is:Bool),(∀r∈q.out,Gk f r)→∀r∈(gY f n q c is).out,Gk f r
 |0,q,_,_,h=>h
 |n+1,q,c,is,h=>by
  unfold gY;split
  ·exact h
  split
  ·exact h
  rename_i x hx;obtain ⟨hF,_,_⟩:=hR.madeF hx;have a0:∀{k:Int},x.op=k→0<([0,1,2,2,2,2,2,2,2,2,1,2,1,2,3,1,0,1,2,1,1,2,2,2,1,2,2][k.toNat]?).getD 0→Bs f (dH x):=fun e h=>IJ (hF.a0 (by rw[hF.cnt e];exact h));have a1:∀{k:Int},x.op=k→1<([0,1,2,2,2,2,2,2,2,2,1,2,1,2,3,1,0,1,2,1,1,2,2,2,1,2,2][k.toNat]?).getD 0→Bs f (fw x):=fun e h=>IJ (hF.a1 (by rw[hF.cnt e];exact h));split
  ·exact Bt n ⟨_,_⟩ _ _ h
  split
  ·exact Bt n ⟨_,_⟩ _ _ h
  split
  ·split
   ·exact Bt n _ _ _ (Bt n ⟨_,_⟩ _ _ h)
   exact h
  split
  ·rename_i e;split
   ·exact uN (q:=⟨q.seen++[(c,is)],q.out⟩) h ⟨⟨a0 e (by decide),a1 e (by decide)⟩,by dsimp only;omega⟩
   exact uN (q:=⟨q.seen++[(c,is)],q.out⟩) h ⟨⟨a1 e (by decide),a0 e (by decide)⟩,by dsimp only;omega⟩
  split
  ·rename_i e;split
   ·exact uN (q:=⟨q.seen++[(c,is)],q.out⟩) h ⟨⟨a0 e (by decide),a1 e (by decide)⟩,by dsimp only;omega⟩
   exact uN (q:=⟨q.seen++[(c,is)],q.out⟩) h ⟨⟨a1 e (by decide),a0 e (by decide)⟩,by dsimp only;omega⟩
  split
  ·rename_i e;split
   ·exact uN (q:=⟨q.seen++[(c,is)],q.out⟩) h ⟨⟨a0 e (by decide),a1 e (by decide)⟩,by dsimp only;omega⟩
   exact h
  exact h
theorem Nl (i:Int):∀r∈jT f i,Gk f r:=by
 unfold jT;split
 ·split
  ·exact Bt hR _ _ _ _ fun r hr=>(by cases hr)
  exact fun r hr=>(by cases hr)
 exact fun r hr=>(by cases hr)
end
def Ps (x:aB):Bool:=decide (18≤x.op∧x.op≤24)
section
variable {f:ab} (hD:∀b∈f.q,∀x∈b.s,Ps x=true→x.dst<0)
include hD
end
section
variable {f:ab}
end
theorem nK {α β:Type} {g:Nat→α→β} {d:β} {n:Nat} {l:List α} {v:Nat} (hl:l.length≤v) (hv:v<n):(eD g d n l)[v]?=some d:=by
 unfold eD;rw[List.getElem?_append_right (by simpa using hl),List.getElem?_replicate,if_pos (by simp;omega)]
section
variable {f:ab} (hR:bq f)
include hR
theorem k6.beg {i:vM} (hp:f.z.length≤f.v.length) (ht:∀j,0≤nJ f j∧nJ f j≤2) (hi:eH f i=0) (h64:yC i):k6 f (lB f i):=by
 obtain ⟨g,_⟩:=bE.beg hR.run hp ht hi h64;have hG:=hR.hE.grph;have hal:i.args.length=f.z.length:=by
  unfold eH at hi;split at hi
  ·cases hi
  rename_i h;exact Classical.not_not.1 h
 have hr:∀r∈i.y,r.length≤64:=by
  unfold eH at hi;split at hi
  ·cases hi
  split at hi
  ·cases hi
  split at hi
  ·cases hi
  split at hi
  ·cases hi
  rename_i h;intro r hr;refine Classical.byContradiction fun hn=>h ?_;exact List.any_eq_true.2 ⟨r,hr,wa (by omega)⟩
 refine ⟨g,hr,fun v h1 h2 h3=>?_,fun j k x hx ha=>?_,fun c p hd hp hk ht=>?_⟩
 ·show vi (lB f i).ints v=0;unfold vi lB;dsimp only;rw[nK (by omega) (by omega)];rfl
 ·have ha:bI f ((j:Int),(k:Int)) 0 0:=ha;rcases ha with h|⟨_,h⟩|⟨_,h,h3⟩
  ·dsimp only at h;omega
  ·dsimp only at h;omega
  exact absurd (cQ hG h3 (.root h3.rch)) h
 have hd:g9 (aj f) c 0:=hd;have:=cQ hG hd (.root hd.rch);subst this;exact absurd rfl (hR.one hd.rch hp).1
end
def ag (k:Int):List (Int × AV)→Option AV
 |[]=>none
 |(k',x)::es=>if k=k' then some x else ag k es
section
variable {E:World} {P:Program} {ops:Array Oper} {K:aU→OL→Prop} {env:aU} {O O' O'':OL} {rest:List Oper} {n:Nat}
variable {d ty:Nat} {pos:String} {af:Array Edge} {x y z:Operand} {t u e T kt:TypeId} {b:Nat}
end
abbrev K4:=Int × Int × Int × Int
def v4 (k:K4):Value:=.agg #[.int .i64 k.1,.int .i64 k.2.1,.int .i64 k.2.2.1,.int .i64 k.2.2.2]
def kf (k:K4):List (K4 × Int)→Nat→Option (Nat × Int)
 |[],_=>none
 |(k',v)::es,i=>if k=k' then some (i,v) else kf k es (i+1)
section
variable {P:Program} {kt:TypeId} {w:World}
end
section
variable {E:World} {P:Program} {ops:Array Oper} {K:aU→OL→Prop} {env:aU} {O O' O'':OL} {rest:List Oper} {n:Nat}
variable {d ty:Nat} {pos:String} {af:Array Edge} {x y z:Operand} {t u e T kt:TypeId} {b:Nat}
end
def Pt (x:aB):Int:=if 0<x.args.length then (x.args[0]?).getD 0 else -1
def Pu (x:aB):Int:=if 1<x.args.length then (x.args[1]?).getD 0 else -1
def Oz (x:aB):K4:=if Ow x.op=true∧Pu x<Pt x then (x.op,x.num,Pu x,Pt x) else (x.op,x.num,Pt x,Pu x)
structure Pv (f:ab) (r:Int→Int):Prop where
 same:∀i k x j q y,mc f i k x→mc f j q y→(Oz (Bp r x)=Oz (Bp r y)↔IB (Bp r x) (Bp r y)=true)
section
variable {f:ab} {r:Int→Int} {rk:Nat→Nat→Nat} (hH:Pr f rk) (hr:Ox f r) (hK:Pv f r)
include hH hr hK
end
section
variable {S:Int→List Int} {n:Nat} (hG:gx S n)
include hG
end
def cq {α:Type} (p:α→Bool) (l:List α) (k:Nat):Nat:=((l.take k).filter p).length
section
variable {f:ab} (hG:gx (aj f) f.q.length) (hall:∀j:Int,0≤j→j<f.q.length→j∈aI (aj f) f.q.length)
include hG hall
end
structure IK (κ:Type) where
 av:κ→List AV
 val:κ→Array Value
 one:∀{I:G} {k:κ} {v:Value},bW I (.agg (av k)) v→v=.agg (val k)
 bits:∀k,Instr.sameBits 10000 (.agg (val k)) (.agg (val k))=true
section
variable {κ:Type} [DecidableEq κ] (c:IK κ)
def PG (k:κ):List (κ × Int)→Nat→Option (Nat × Int)
 |[],_=>none
 |(k',v)::es,i=>if k=k' then some (i,v) else PG k es (i+1)
def OA (es:List (κ × Int)) (k:κ):Option Int:=(PG k es 0).map (·.2)
variable {c}
section
variable {P:Program} {kt:TypeId} {w:World}
end
section
variable {E:World} {P:Program} {ops:Array Oper} {K:aU→OL→Prop} {env:aU} {O O' O'':OL} {rest:List Oper} {n:Nat}
variable {d ty:Nat} {pos:String} {af:Array Edge} {x y z:Operand} {t u e T kt:TypeId} {b:Nat}
end
end
section
variable {E:Int→List Int} {n:Nat} (hE:gx E n)
include hE
end
section
variable {f:ab} (hR:bq f)
include hR
end
section
variable {f:ab} (hR:bq f)
def domF (f:ab) (a b:Int):Bool:=mU (aj f) f.q.length a b
def isNear (f:ab) (a b:Int):Bool:=(!decide (a=b)&&domF f a b)&&(ba f.q.length).all fun x=>!(!decide (x=b)&&domF f x b)||domF f x a
def nearD (f:ab) (b:Int):Int:=((ba f.q.length).find? fun a=>isNear f a b).getD (-1)
include hR
theorem bq.domF (a b:Int):domF f a b=true↔g9 (aj f) a b:=hR.hE.grph.domB_iff a b
theorem bq.memO {b:Int} (h:0≤b∧b<f.q.length):b∈aI (aj f) f.q.length:=by
 obtain ⟨j,rfl⟩:∃j:Nat,b=(j:Int):=⟨b.toNat,by omega⟩;exact (b9 hR.hE.grph.toEOk _).2 (hR.hs.2.1 j (by omega))
theorem bq.near_dom {b:Int} (hb:0≤b∧b<f.q.length) (h0:b≠0) {a:Int}:g9 (aj f) a b∧a≠b↔g9 (aj f) a (gi (db (aj f) f.q.length) b):=by
 have hG:=hR.hE.grph;have hm:=hR.memO hb;obtain ⟨g1,_⟩:=hG.near_mem hm h0;have hl:=hG.lev_near hm h0
 constructor
 ·rintro ⟨h,hne⟩;rcases ((hG.dom_iff hm).1 h).cases' with e|⟨_,_,h3⟩
  ·exact absurd e hne
  exact (hG.dom_iff g1).2 h3
 intro h;have ha:=(hG.dom_iff g1).1 h;refine ⟨(hG.dom_iff hm).2 (.up h0 (hG.exact.has b hm) ha),fun e=>?_⟩;have:=hG.lev_anc g1 ha;rw[e] at this;omega
theorem bq.isNear {b:Int} (hb:0≤b∧b<f.q.length) {a:Int}:isNear f a b=true↔b≠0∧a=gi (db (aj f) f.q.length) b:=by
 have hG:=hR.hE.grph;have hm:=hR.memO hb;unfold Go.Proofs.YtbbonnfjealmpaaGreatDoor.isNear;simp only[wc,Bool.not_eq_true',decide_eq_false_iff_not,wd,Bool.or_eq_true]
 constructor
 ·rintro ⟨⟨h1,h2⟩,h3⟩;have hab:=(hR.domF a b).1 h2;have h0:b≠0:=fun e=>by
   subst e;exact h1 (cQ hG hab (.root hab.rch))
  refine ⟨h0,?_⟩;obtain ⟨g1,_⟩:=hG.near_mem hm h0;have hp:=(hR.near_dom hb h0).2 (.refl ((b9 hG.toEOk _).1 g1));have hpr:=da hG.toEOk g1;have:=h3 _ (dR.2 hpr);have hpa:g9 (aj f) (gi (db (aj f) f.q.length) b) a:=by
   rcases this with h|h
   ·rw[(hR.domF _ _).2 hp.1,wb hp.2] at h;cases h
   exact (hR.domF _ _).1 h
  exact cQ hG ((hR.near_dom hb h0).1 ⟨hab,h1⟩) hpa
 rintro ⟨h0,rfl⟩;obtain ⟨g1,_⟩:=hG.near_mem hm h0;have hp:=(hR.near_dom hb h0).2 (.refl ((b9 hG.toEOk _).1 g1));refine ⟨⟨hp.2,(hR.domF _ _).2 hp.1⟩,fun x _=>?_⟩
 by_cases hx:x≠b∧g9 (aj f) x b
 ·exact .inr ((hR.domF _ _).2 ((hR.near_dom hb h0).1 ⟨hx.2,hx.1⟩))
 left
 by_cases e:x=b
 ·simp[e]
 have:Go.Proofs.YtbbonnfjealmpaaGreatDoor.domF f x b=false:=by
  cases h:Go.Proofs.YtbbonnfjealmpaaGreatDoor.domF f x b with
  |false=>rfl
  |true=>exact absurd ⟨e,(hR.domF x b).1 h⟩ hx
 rw[this,Bool.and_false]
theorem bq.nearD {b:Int} (hb:0≤b∧b<f.q.length):nearD f b=if b=0 then -1 else gi (db (aj f) f.q.length) b:=by
 have hG:=hR.hE.grph;unfold Go.Proofs.YtbbonnfjealmpaaGreatDoor.nearD;cases h:(ba f.q.length).find? fun a=>Go.Proofs.YtbbonnfjealmpaaGreatDoor.isNear f a b with
 |none=>
  by_cases h0:b=0
  ·rw[if_pos h0];rfl
  obtain ⟨g1,_⟩:=hG.near_mem (hR.memO hb) h0;exact absurd ((hR.isNear hb).2 ⟨h0,rfl⟩) (List.find?_eq_none.1 h _ (dR.2 (da hG.toEOk g1)))
 |some a=>
  have h1:Go.Proofs.YtbbonnfjealmpaaGreatDoor.isNear f a b=true:=List.find?_some (p:=fun a=>Go.Proofs.YtbbonnfjealmpaaGreatDoor.isNear f a b) h;obtain ⟨h0,e⟩:=(hR.isNear hb).1 h1;rw[if_neg h0,←e];rfl
end
end
section
open Go.Proofs.Tryz
open Go.Proofs
def xa:Nat→Nat→List UInt8
 |0,k=>[UInt8.ofNat (48+k)]
 |n+1,k=>if k<10 then[UInt8.ofNat (48+k)] else xa n (k / 10)++[UInt8.ofNat (48+k % 10)]
def Dp (k:Nat):List UInt8:=xa k k
def kC (k:Nat):ByteArray:=⟨(120::Dp k).toArray⟩
def gB (f:ab) (k:Nat):Bool:=f.v.any fun v=>decide (v.name=kC k)
def pK (f:ab):Nat→Nat→Nat
 |0,k=>k
 |n+1,k=>if gB f k=true then pK f n (k+1) else k
def f9 (f:ab) (k:Nat):Nat:=pK f (f.v.length+1) k
structure sr where
 v:List lg
 rts:List Int
 now:List Int
 k:Nat
abbrev gL:=sr × List aB
def yE (f:ab) (v:Int):Bool:=match eN f v with|some y=>decide (y.op=0)|none=>false
def kO (f:ab) (S:sr) (v:Int):sr:=⟨S.v++[⟨kC (f9 f S.k),0⟩],S.rts++[v],S.now.set v.toNat S.v.length,f9 f S.k+1⟩
def fp (f:ab) (p:gL) (v:Int) (x:aB):gL:=if yE f v=true then p else (kO f p.1 v,p.2++[⟨x.op,p.1.v.length,x.args,x.num⟩])
def lF (n:Int):Int:=if n=0 then 4 else if n=1 then 3 else 2
def gZ (f:ab) (p:gL) (r:uI):gL:=fp f (fp f p r.a ⟨25,0,[vi p.1.now r.a,vi p.1.now r.b],r.n⟩) r.b ⟨25,0,[vi p.1.now r.b,vi p.1.now r.a],lF r.n⟩
def gM (S:sr) (x:aB):aB:=⟨x.op,x.dst,x.args.map (vi S.now),x.num⟩
def gC (f:ab) (p:gL) (x:aB):gL:=if x.op=18 then fp f (p.1,p.2++[gM p.1 x]) (fw x) ⟨26,0,[vi p.1.now (fw x),vi p.1.now (dH x)],0⟩ else (p.1,p.2++[gM p.1 x])
def dU (f:ab) (S:sr) (b:Int):gL:=(aQ f b).s.foldl (gC f) ((jT f b).foldl (gZ f) (S,[]))
def f6 (S:sr) (t:fJ):fJ:=if t.kind=0 then t else ⟨t.kind,vi S.now t.var,t.to0,t.to1⟩
structure vQ where
 v:List lg
 rts:List Int
 k:Nat
 ends:List (List Int)
 blks:List aF
def Bu:aF:=⟨⟨#[]⟩,[],[],⟨0,0,0,0⟩⟩
def fq (ends:List (List Int)) (b:Int):List Int:=(ends[b.toNat]?).getD []
def dP (f:ab) (W:vQ) (b:Int):sr:=⟨W.v,W.rts,if 0≤nearD f b then fq W.ends (nearD f b) else ba f.v.length,W.k⟩
def k8 (f:ab) (W:vQ) (b:Int):vQ:=
 let p:=dU f (dP f W b) b
 ⟨p.1.v,p.1.rts,p.1.k,W.ends.set b.toNat p.1.now,W.blks.set b.toNat ⟨(aQ f b).name,[],p.2,f6 p.1 (aQ f b).t⟩⟩
def yF (f:ab):vQ:=⟨f.v,[],0,List.replicate f.q.length [],List.replicate f.q.length Bu⟩
def iD (f:ab):Nat→Int→List Int
 |0,b=>[b]
 |n+1,b=>b::((ba f.q.length).filter fun k=>!decide (k=b)&&(domF f b k&&decide (nearD f k=b))).flatMap (iD f n)
def cg (f:ab):vQ:=(iD f f.q.length 0).foldl (k8 f) (yF f)
def ga (ends:List (List Int)) (p:dh):dh:=⟨p.dst,(p.args.zip p.w).map fun q=>vi (fq ends q.2) q.1,p.w⟩
def bh (f:ab):ab:=⟨(cg f).v,f.z,(f.q.zip (cg f).blks).map fun q=>{ q.2 with p:=q.1.p.map (ga (cg f).ends) }⟩
def cY (n:Nat) (rts:List Int) (u:Int):Int:=if u<n then u else vi rts (u - n)
theorem nj {n:Nat} {rts:List Int} {u:Int} (h:u<n):cY n rts u=u:=if_pos h
theorem dE {n:Nat} {rts qs:List Int} {u:Int} (h:u<n+rts.length):cY n (rts++qs) u=cY n rts u:=by
 unfold cY;split
 ·rfl
 unfold vi;rw[List.getElem?_append_left (by omega)]
theorem pL {n:Nat} {rts:List Int} {v:Int}:cY n (rts++[v]) (n+rts.length:Nat)=v:=by
 unfold cY vi;rw[if_neg (by omega),List.getElem?_append_right (by omega)];have:((n+rts.length:Nat) - (n:Int)).toNat - rts.length=0:=by omega
 rw[this];rfl
structure kP (n:Nat) (vars:List lg) (rts now:List Int):Prop where
 len:now.length=n
 rt:∀v:Int,0≤v→v<n→(0≤vi now v∧vi now v<vars.length)∧cY n rts (vi now v)=v
structure rN (f:ab) (vars:List lg) (rts:List Int):Prop where
 len:vars.length=f.v.length+rts.length
 rt:∀r∈rts,0≤r∧r<f.v.length
 pre:∃l,vars=f.v++l
structure Bv (n:Nat) (rts:List Int) (y x:aB):Prop where
 op:x.op=y.op
 dst:x.dst=y.dst
 num:x.num=y.num
 args:x.args.map (cY n rts)=y.args
 bnd:∀a∈x.args,0≤a∧a<(n+rts.length:Nat)
inductive kQ (f:ab) (i:Int) (rts:List Int):List aB→aB→Prop
 |old {l x y} (h:y∈(aQ f i).s) (hi:Bv f.v.length rts y x):kQ f i rts l x
 |pi {l d a b n r} (hd:(f.v.length:Int)≤d∧d<(f.v.length+rts.length:Nat)) (ha:0≤a∧a<d) (hb:0≤b∧b<d) (hrt:cY f.v.length rts d=cY f.v.length rts a) (hr:r∈jT f i) (h:(cY f.v.length rts a=r.a∧cY f.v.length rts b=r.b∧n=r.n)∨(cY f.v.length rts a=r.b∧cY f.v.length rts b=r.a∧n=lF r.n)):kQ f i rts l ⟨25,d,[a,b],n⟩
 |len {l d a b e m} (hd:(f.v.length:Int)≤d∧d<(f.v.length+rts.length:Nat)) (ha:0≤a∧a<d) (hrt:cY f.v.length rts d=cY f.v.length rts a):kQ f i rts (l++[⟨18,e,[b,a],m⟩]) ⟨26,d,[a,b],0⟩
theorem Bv.up {n:Nat} {rts:List Int} {y x:aB} (h:Bv n rts y x) (qs:List Int):Bv n (rts++qs) y x:=
 ⟨h.op,h.dst,h.num,by rw[←h.args];exact List.map_congr_left fun a ha=>dE (by have:=(h.bnd a ha).2;omega),fun a ha=>⟨(h.bnd a ha).1,by have:=(h.bnd a ha).2;rw[qz];omega⟩⟩
theorem kQ.up {f:ab} {i:Int} {rts:List Int} {l:List aB} {x:aB} (h:kQ f i rts l x) (qs:List Int):kQ f i (rts++qs) l x:=by
 cases h with
 |old h hi=>exact .old h (hi.up qs)
 |pi hd ha hb hrt hr h=>
  refine .pi ⟨hd.1,by rw[qz];omega⟩ ha hb ?_ hr ?_
  ·rw[dE (by omega),dE (by omega)];exact hrt
  rw[dE (by omega),dE (by omega)];exact h
 |len hd ha hrt=>
  refine .len ⟨hd.1,by rw[qz];omega⟩ ha ?_;rw[dE (by omega),dE (by omega)];exact hrt
structure k9 (f:ab) (i:Int) (base:Nat) (p:gL) (done:List aB):Prop where
 vok:rN f p.1.v p.1.rts
 now:kP f.v.length p.1.v p.1.rts p.1.now
 frm:∀k x,p.2[k]?=some x→kQ f i p.1.rts (p.2.take k) x
 img:∀y∈done,∃x∈p.2,Bv f.v.length p.1.rts y x
 mkd:∀d:Int,base≤d→d<p.1.v.length→∃x∈p.2,x.dst=d
theorem kP.set {f:ab} {S:sr} (hv:rN f S.v S.rts) (h:kP f.v.length S.v S.rts S.now) {v:Int} (h0:0≤v) (h1:v<f.v.length):kP f.v.length (kO f S v).v (kO f S v).rts (kO f S v).now:=by
 refine ⟨by show (S.now.set _ _).length=_;rw[List.length_set];exact h.len,fun u g0 g1=>?_⟩;show (0≤vi (S.now.set v.toNat S.v.length) u∧vi (S.now.set v.toNat S.v.length) u<((S.v++[_]).length:Nat))∧cY _ (S.rts++[v]) (vi (S.now.set v.toNat S.v.length) u)=u;rw[qz]
 by_cases e:u=v
 ·subst e;rw[jE h0 (by rw[h.len];exact h1)];refine ⟨⟨by omega,by show (S.v.length:Int)<(S.v.length+1:Nat);omega⟩,?_⟩;rw[hv.len];exact pL
 rw[my h0 g0 e];obtain ⟨⟨r1,r2⟩,r3⟩:=h.rt u g0 g1;refine ⟨⟨r1,by show _<((S.v.length+1:Nat):Int);omega⟩,?_⟩;rw[dE (by rw[←Int.natCast_add,←hv.len];exact r2)];exact r3
theorem rN.put {f:ab} {S:sr} (hv:rN f S.v S.rts) {v:Int} (h0:0≤v) (h1:v<f.v.length):rN f (kO f S v).v (kO f S v).rts:=by
 obtain ⟨l,hl⟩:=hv.pre;refine ⟨?_,fun r hr=>?_,l++[⟨kC (f9 f S.k),0⟩],?_⟩
 ·show (S.v++[_]).length=_+(S.rts++[_]).length;rw[qz,qz,hv.len];rfl
 ·have hr:r∈S.rts++[v]:=hr;rcases List.mem_append.1 hr with h|h
  ·exact hv.rt r h
  rw[List.mem_singleton.1 h];exact ⟨h0,h1⟩
 show S.v++_=_;rw[hl,qv]
theorem Bw {f:ab} {i:Int} {rts:List Int} {L:List aB} {z:aB} (h:∀k x,L[k]?=some x→kQ f i rts (L.take k) x) (hz:kQ f i rts L z):∀k x,(L++[z])[k]?=some x→kQ f i rts ((L++[z]).take k) x:=fun k x hx=>by
 by_cases hk:k<L.length
 ·rw[List.getElem?_append_left hk] at hx;rw[List.take_append_of_le_length (by omega)];exact h k x hx
 rw[List.getElem?_append_right (by omega)] at hx;have h0:k=L.length:=by
  have:=(List.getElem?_eq_some_iff.1 hx).1;simp at this;omega
 subst h0;rw[Nat.sub_self] at hx;cases hx;rw[List.take_left' rfl];exact hz
theorem k9.put {f:ab} {i:Int} {base:Nat} {p:gL} {done:List aB} (h:k9 f i base p done) {v:Int} (h0:0≤v) (h1:v<f.v.length) {x:aB} (hx:kQ f i (p.1.rts++[v]) p.2 ⟨x.op,p.1.v.length,x.args,x.num⟩):k9 f i base (fp f p v x) done∧(∃qs,(fp f p v x).1.rts=p.1.rts++qs)∧p.1.v.length≤(fp f p v x).1.v.length:=by
 unfold fp;split
 ·exact ⟨h,⟨[],(w8 _).symm⟩,Nat.le_refl _⟩
 refine ⟨⟨h.vok.put h0 h1,kP.set h.vok h.now h0 h1,Bw (fun k y hy=>(h.frm k y hy).up [v]) hx,fun y hy=>?_,fun d h2 h3=>?_⟩,⟨[v],rfl⟩,by show _≤(p.1.v++[_]).length;rw[qz];omega⟩
 ·obtain ⟨z,hz,hi⟩:=h.img y hy;exact ⟨z,List.mem_append_left _ hz,hi.up [v]⟩
 have h3:d<((p.1.v++[_]).length:Nat):=h3;rw[qz] at h3;have h3:d<((p.1.v.length+1:Nat):Int):=h3
 by_cases e:d<p.1.v.length
 ·obtain ⟨z,hz,hd⟩:=h.mkd d h2 e;exact ⟨z,List.mem_append_left _ hz,hd⟩
 exact ⟨_,List.mem_append_right _ (.head _),by show (p.1.v.length:Int)=d;omega⟩
theorem k9.rel {f:ab} {i:Int} {base:Nat} {p:gL} {done:List aB} (h:k9 f i base p done) {r:uI} (hr:r∈jT f i) (hn:(0≤r.a∧r.a<f.v.length)∧0≤r.b∧r.b<f.v.length):k9 f i base (gZ f p r) done:=by
 obtain ⟨⟨a1,a2⟩,b1,b2⟩:=hn;obtain ⟨⟨p1,p2⟩,p3⟩:=h.now.rt r.a a1 a2;obtain ⟨⟨q1,q2⟩,q3⟩:=h.now.rt r.b b1 b2;have hvl:=h.vok.len;have hd:cY f.v.length (p.1.rts++[r.a]) (p.1.v.length:Nat)=r.a:=by rw[hvl];exact pL
 obtain ⟨g1,⟨qs,g2⟩,g3⟩:=h.put a1 a2 (x:=⟨25,0,[vi p.1.now r.a,vi p.1.now r.b],r.n⟩) (by
  refine .pi ⟨by omega,by rw[qz];show _<((f.v.length+(p.1.rts.length+1):Nat):Int);omega⟩ ⟨p1,p2⟩ ⟨q1,q2⟩ ?_ hr (.inl ⟨?_,?_,U⟩)
  ·rw[hd,dE (by omega),p3]
  ·rw[dE (by omega),p3]
  rw[dE (by omega),q3])
 unfold gZ
 generalize hp:fp f p r.a ⟨25,0,[vi p.1.now r.a,vi p.1.now r.b],r.n⟩=q at g1 g2 g3
 have hql:=g1.vok.len;have hd2:cY f.v.length (q.1.rts++[r.b]) (q.1.v.length:Nat)=r.b:=by rw[hql];exact pL
 have e1:cY f.v.length (q.1.rts++[r.b]) (vi p.1.now r.a)=r.a:=by rw[dE (by omega),g2,dE (by omega),p3]
 have e2:cY f.v.length (q.1.rts++[r.b]) (vi p.1.now r.b)=r.b:=by rw[dE (by omega),g2,dE (by omega),q3]
 refine (g1.put b1 b2 ?_).1;refine .pi ⟨by omega,by rw[qz];show _<((f.v.length+(q.1.rts.length+1):Nat):Int);omega⟩ ⟨q1,by omega⟩ ⟨p1,by omega⟩ ?_ hr (.inr ⟨e2,e1,U⟩);rw[hd2,e2]
theorem IL {f:ab} {S:sr} (hv:rN f S.v S.rts) (h:kP f.v.length S.v S.rts S.now) {y:aB} (ha:∀a∈y.args,0≤a∧a<f.v.length):Bv f.v.length S.rts y (gM S y):=by
 refine ⟨U,U,U,?_,fun a hm=>?_⟩
 ·show (y.args.map _).map _=_;rw[List.map_map];refine (List.map_congr_left fun a hm=>?_).trans (List.map_id _);exact (h.rt a (ha a hm).1 (ha a hm).2).2
 obtain ⟨b,hb,rfl⟩:=List.mem_map.1 hm;have:=(h.rt b (ha b hb).1 (ha b hb).2).1;exact ⟨this.1,by rw[←hv.len];exact this.2⟩
theorem k9.ins {f:ab} {i:Int} {base:Nat} {p:gL} {done:List aB} (h:k9 f i base p done) {y:aB} (hy:y∈(aQ f i).s) (ha:∀a∈y.args,0≤a∧a<f.v.length) (h2:y.op=18→∃a b,y.args=[a,b]):k9 f i base (gC f p y) (done++[y]):=by
 have hi:=IL h.vok h.now ha;have h1:k9 f i base (p.1,p.2++[gM p.1 y]) (done++[y]):=by
  refine ⟨h.vok,h.now,Bw h.frm (.old hy hi),fun z hz=>?_,fun d h2 h3=>?_⟩
  ·rcases List.mem_append.1 hz with hz|hz
   ·obtain ⟨x,hx,e⟩:=h.img z hz;exact ⟨x,List.mem_append_left _ hx,e⟩
   rw[List.mem_singleton.1 hz];exact ⟨_,List.mem_append_right _ (.head _),hi⟩
  obtain ⟨x,hx,e⟩:=h.mkd d h2 h3;exact ⟨x,List.mem_append_left _ hx,e⟩
 unfold gC;split
 ·rename_i ho;obtain ⟨a,b,hab⟩:=h2 ho;have e0:dH y=a:=by unfold dH;rw[hab];rfl
  have e1:fw y=b:=by unfold fw;rw[hab];rfl
  rw[e0,e1];have hb:=ha b (by rw[hab];simp);obtain ⟨⟨q1,q2⟩,q3⟩:=h.now.rt b hb.1 hb.2;have hvl:=h.vok.len;have hc:gM p.1 y=⟨18,y.dst,[vi p.1.now a,vi p.1.now b],y.num⟩:=by unfold gM;rw[ho,hab];rfl
  refine (h1.put hb.1 hb.2 ?_).1;show kQ f i (p.1.rts++[b]) (p.2++[gM p.1 y]) ⟨26,p.1.v.length,[vi p.1.now b,vi p.1.now a],0⟩;rw[hc];refine .len ⟨by omega,by rw[qz];show _<((f.v.length+(p.1.rts.length+1):Nat):Int);omega⟩ ⟨q1,q2⟩ ?_;rw[show cY f.v.length (p.1.rts++[b]) (p.1.v.length:Nat)=b by rw[hvl];exact pL,dE (by omega),q3]
 exact h1
theorem k9.rels {f:ab} {i:Int} {base:Nat}:∀{l:List uI} {p:gL} {done:List aB},k9 f i base p done→(∀r∈l,r∈jT f i∧(0≤r.a∧r.a<f.v.length)∧0≤r.b∧r.b<f.v.length)→k9 f i base (l.foldl (gZ f) p) done
 |[],_,_,h,_=>h
 |r::l,_,_,h,k=>by
  have:=k9.rels (l:=l) (h.rel (k r (.head _)).1 (k r (.head _)).2) fun q hq=>k q (.tail _ hq);exact this
theorem k9.inss {f:ab} {i:Int} {base:Nat}:∀{l:List aB} {p:gL} {done:List aB},k9 f i base p done→(∀y∈l,y∈(aQ f i).s∧(∀a∈y.args,0≤a∧a<f.v.length)∧(y.op=18→∃a b,y.args=[a,b]))→k9 f i base (l.foldl (gC f) p) (done++l)
 |[],_,_,h,_=>by rw[w8];exact h
 |y::l,_,done,h,k=>by
  have:=k9.inss (l:=l) (h.ins (k y (.head _)).1 (k y (.head _)).2.1 (k y (.head _)).2.2) fun q hq=>k q (.tail _ hq)
  rwa [qv] at this
structure ob (f:ab) (rts:List Int) (i:Int) (c:aF):Prop where
 name:c.name=(aQ f i).name
 frm:∀k x,c.s[k]?=some x→kQ f i rts (c.s.take k) x
 img:∀y∈(aQ f i).s,∃x∈c.s,Bv f.v.length rts y x
 kind:c.t.kind=(aQ f i).t.kind
 to0:c.t.to0=(aQ f i).t.to0
 to1:c.t.to1=(aQ f i).t.to1
 var:(aQ f i).t.kind≠0→(0≤c.t.var∧c.t.var<(f.v.length+rts.length:Nat))∧cY f.v.length rts c.t.var=(aQ f i).t.var
 var0:(aQ f i).t.kind=0→c.t.var=(aQ f i).t.var
theorem ob.up {f:ab} {rts:List Int} {i:Int} {c:aF} (h:ob f rts i c) (qs:List Int):ob f (rts++qs) i c:=
 ⟨h.name,fun k x hx=>(h.frm k x hx).up qs,fun y hy=>let ⟨x,hx,e⟩:=h.img y hy;⟨x,hx,e.up qs⟩,h.kind,h.to0,h.to1,fun hk=>by
  obtain ⟨⟨v1,v2⟩,v3⟩:=h.var hk;exact ⟨⟨v1,by rw[qz];omega⟩,by rw[dE (by omega)];exact v3⟩,h.var0⟩
structure O5 (f:ab):Prop where
 args:∀b∈f.q,∀y∈b.s,∀a∈y.args,0≤a∧a<f.v.length
 two:∀b∈f.q,∀y∈b.s,y.op=18→∃a b,y.args=[a,b]
 t:∀b∈f.q,b.t.kind≠0→0≤b.t.var∧b.t.var<f.v.length
 rel:∀i,∀r∈jT f i,(0≤r.a∧r.a<f.v.length)∧0≤r.b∧r.b<f.v.length
theorem kP.upN {n:Nat} {vars vs:List lg} {rts qs now:List Int} (h:kP n vars rts now) (hl:vars.length=n+rts.length):kP n (vars++vs) (rts++qs) now:=
 ⟨h.len,fun v h0 h1=>by
  obtain ⟨⟨r1,r2⟩,r3⟩:=h.rt v h0 h1;exact ⟨⟨r1,by rw[qz];omega⟩,by rw[dE (by omega)];exact r3⟩⟩
structure md (f:ab) (W:vQ) (done:List Int):Prop where
 vok:rN f W.v W.rts
 el:W.ends.length=f.q.length
 bl:W.blks.length=f.q.length
 ends:∀b∈done,kP f.v.length W.v W.rts (fq W.ends b)
 blks:∀b∈done,∃c,W.blks[b.toNat]?=some c∧ob f W.rts b c
 p:∀(k:Nat) c,W.blks[k]?=some c→c.p=[]
 mkd:∀d:Int,f.v.length≤d→d<W.v.length→∃b∈done,∃c,W.blks[b.toNat]?=some c∧∃x∈c.s,x.dst=d
theorem uO (f:ab) (p:gL) (v:Int) (x:aB):(∃vs,(fp f p v x).1.v=p.1.v++vs)∧∃qs,(fp f p v x).1.rts=p.1.rts++qs:=by
 unfold fp;split
 ·exact ⟨⟨[],(w8 _).symm⟩,[],(w8 _).symm⟩
 exact ⟨⟨_,rfl⟩,_,rfl⟩
theorem IM (f:ab) (p:gL) (r:uI):(∃vs,(gZ f p r).1.v=p.1.v++vs)∧∃qs,(gZ f p r).1.rts=p.1.rts++qs:=by
 unfold gZ;obtain ⟨⟨a,ha⟩,b,hb⟩:=uO f p r.a ⟨25,0,[vi p.1.now r.a,vi p.1.now r.b],r.n⟩;obtain ⟨⟨c,hc⟩,d,hd⟩:=uO f (fp f p r.a ⟨25,0,[vi p.1.now r.a,vi p.1.now r.b],r.n⟩) r.b ⟨25,0,[vi p.1.now r.b,vi p.1.now r.a],lF r.n⟩;exact ⟨⟨a++c,by rw[hc,ha,qv]⟩,b++d,by rw[hd,hb,qv]⟩
theorem IO (f:ab) (p:gL) (x:aB):(∃vs,(gC f p x).1.v=p.1.v++vs)∧∃qs,(gC f p x).1.rts=p.1.rts++qs:=by
 unfold gC;split
 ·exact uO f (p.1,p.2++[gM p.1 x]) _ _
 exact ⟨⟨[],(w8 _).symm⟩,[],(w8 _).symm⟩
theorem uP {α:Type} {g:gL→α→gL} (h:∀p x,(∃vs,(g p x).1.v=p.1.v++vs)∧∃qs,(g p x).1.rts=p.1.rts++qs):∀(l:List α) (p:gL),(∃vs,(l.foldl g p).1.v=p.1.v++vs)∧∃qs,(l.foldl g p).1.rts=p.1.rts++qs
 |[],p=>⟨⟨[],(w8 _).symm⟩,[],(w8 _).symm⟩
 |x::l,p=>by
  obtain ⟨⟨a,ha⟩,b,hb⟩:=h p x;obtain ⟨⟨c,hc⟩,d,hd⟩:=uP h l (g p x);exact ⟨⟨a++c,by rw[List.foldl_cons,hc,ha,qv]⟩,b++d,by rw[List.foldl_cons,hd,hb,qv]⟩
theorem xb (f:ab) (S:sr) (b:Int):(∃vs,(dU f S b).1.v=S.v++vs)∧∃qs,(dU f S b).1.rts=S.rts++qs:=by
 obtain ⟨⟨a,ha⟩,c,hc⟩:=uP (IM f) (jT f b) (S,[]);obtain ⟨⟨d,hd⟩,e,he⟩:=uP (IO f) (aQ f b).s ((jT f b).foldl (gZ f) (S,[]));exact ⟨⟨a++d,by unfold dU;rw[hd,ha,qv]⟩,c++e,by unfold dU;rw[he,hc,qv]⟩
theorem IP {f:ab} (hF:O5 f) {S:sr} (hv:rN f S.v S.rts) (hn:kP f.v.length S.v S.rts S.now) {b:Int} (h0:0≤b) (h1:b<f.q.length):k9 f b S.v.length (dU f S b) (aQ f b).s:=by
 have hm:=cU h0 h1;have h:k9 f b S.v.length (S,[]) []:=⟨hv,hn,fun k x hx=>(by cases hx),fun y hy=>(by cases hy),fun d h2 h3=>by have h3:d<S.v.length:=h3;omega⟩;have:=k9.inss (h.rels fun r hr=>⟨hr,hF.rel b r hr⟩) (l:=(aQ f b).s) fun y hy=>⟨hy,hF.args _ hm y hy,hF.two _ hm y hy⟩
 rwa [List.nil_append] at this
theorem Bx {l:List (List Int)} {b u:Int} {r:List Int} (h0:0≤b) (h1:b<l.length) (g0:0≤u):fq (l.set b.toNat r) u=if u=b then r else fq l u:=by
 unfold fq;split
 ·rename_i e;rw[e,List.getElem?_set_self (by omega)];rfl
 rename_i e;rw[List.getElem?_set_ne (by omega)]
theorem md.step {f:ab} (hF:O5 f) {W:vQ} {done:List Int} (h:md f W done) (hd:∀u∈done,0≤u) {b:Int} (h0:0≤b) (h1:b<f.q.length) (hn:0≤nearD f b→nearD f b∈done) (hnd:b ∉ done):md f (k8 f W b) (done++[b]):=by
 have hnow:kP f.v.length W.v W.rts (dP f W b).now:=by
  show kP _ _ _ (if 0≤nearD f b then fq W.ends (nearD f b) else ba f.v.length);split
  ·rename_i k;exact h.ends _ (hn k)
  refine ⟨cA _,fun v g0 g1=>?_⟩;have e:vi (ba f.v.length) v=v:=by
   unfold vi ba;rw[w3,List.getElem?_range (by omega)];show ((v.toNat:Nat):Int)=v;omega
  rw[e];have:=h.vok.len;exact ⟨⟨g0,by omega⟩,nj g1⟩
 have hb:=IP hF (S:=dP f W b) h.vok hnow h0 h1;obtain ⟨⟨vs,hvs⟩,qs,hqs⟩:=xb f (dP f W b) b;have hvs:(dU f (dP f W b) b).1.v=W.v++vs:=hvs;have hqs:(dU f (dP f W b) b).1.rts=W.rts++qs:=hqs;have hm:=cU h0 h1
 generalize hp:dU f (dP f W b) b=p at hb hvs hqs
 have hW:k8 f W b=⟨p.1.v,p.1.rts,p.1.k,W.ends.set b.toNat p.1.now,W.blks.set b.toNat ⟨(aQ f b).name,[],p.2,f6 p.1 (aQ f b).t⟩⟩:=by unfold k8;rw[hp]
 rw[hW];refine ⟨hb.vok,by show (W.ends.set _ _).length=_;rw[List.length_set];exact h.el,by show (W.blks.set _ _).length=_;rw[List.length_set];exact h.bl,fun u hu=>?_,fun u hu=>?_,fun k c hc=>?_,fun d h2 h3=>?_⟩
 ·have hu0:0≤u:=by rcases List.mem_append.1 hu with k|k;exact hd u k;rw[List.mem_singleton.1 k];exact h0
  show kP _ p.1.v p.1.rts (fq (W.ends.set b.toNat p.1.now) u);rw[Bx h0 (by rw[h.el];exact h1) hu0];split
  ·exact hb.now
  rename_i ne;have hu2:u∈done:=by rcases List.mem_append.1 hu with k|k;exact k;exact absurd (List.mem_singleton.1 k) ne
  rw[hvs,hqs];exact (h.ends u hu2).upN h.vok.len
 ·have hu0:0≤u:=by rcases List.mem_append.1 hu with k|k;exact hd u k;rw[List.mem_singleton.1 k];exact h0
  show ∃c,(W.blks.set b.toNat _)[u.toNat]?=some c∧ob f p.1.rts u c
  by_cases e:u=b
  ·subst e;refine ⟨_,List.getElem?_set_self (by rw[h.bl];omega),U,hb.frm,hb.img,?_,?_,?_,fun hk=>?_,fun hk=>by show (f6 _ _).var=_;unfold f6;rw[if_pos hk]⟩
   ·show (f6 _ _).kind=_;unfold f6;split<;>rfl
   ·show (f6 _ _).to0=_;unfold f6;split<;>rfl
   ·show (f6 _ _).to1=_;unfold f6;split<;>rfl
   have hv:(f6 p.1 (aQ f u).t).var=vi p.1.now (aQ f u).t.var:=by unfold f6;rw[if_neg hk]
   show (0≤(f6 p.1 (aQ f u).t).var∧(f6 p.1 (aQ f u).t).var<_)∧cY _ _ (f6 p.1 (aQ f u).t).var=_;rw[hv];obtain ⟨t1,t2⟩:=hF.t _ hm hk;have:=hb.now.rt _ t1 t2;rw[←hb.vok.len];exact this
  have hu2:u∈done:=by rcases List.mem_append.1 hu with k|k;exact k;exact absurd (List.mem_singleton.1 k) e
  obtain ⟨c,hc,hk⟩:=h.blks u hu2;exact ⟨c,by rw[List.getElem?_set_ne (by omega)];exact hc,by rw[hqs];exact hk.up qs⟩
 ·have hc:(W.blks.set b.toNat _)[k]?=some c:=hc;rw[List.getElem?_set] at hc;split at hc
  ·split at hc
   ·cases hc;rfl
   cases hc
  exact h.p k c hc
 have h3:d<p.1.v.length:=h3;show ∃u∈done++[b],∃c,(W.blks.set b.toNat _)[u.toNat]?=some c∧_
 by_cases e:d<W.v.length
 ·obtain ⟨u,hu,c,hc,hx⟩:=h.mkd d h2 e;have hne:u≠b:=fun e=>hnd (e▸hu);have:=hd u hu;exact ⟨u,List.mem_append_left _ hu,c,by rw[List.getElem?_set_ne (by omega)];exact hc,hx⟩
 obtain ⟨x,hx,e2⟩:=hb.mkd d (by show (W.v.length:Int)≤d;omega) h3;exact ⟨b,List.mem_append_right _ (.head _),_,List.getElem?_set_self (by rw[h.bl];omega),x,hx,e2⟩
theorem Gl {n k:Nat} {c:aF} (hc:(List.replicate n Bu)[k]?=some c):c.p=[]:=by
 rw[List.getElem?_replicate] at hc;split at hc
 ·cases hc;rfl
 cases hc
theorem md.first (f:ab):md f (yF f) []:=
 ⟨⟨(Nat.add_zero _).symm,fun r hr=>(by cases hr),[],(w8 _).symm⟩,List.length_replicate,List.length_replicate,fun b hb=>(by cases hb),fun b hb=>(by cases hb),fun k c hc=>Gl hc,fun d h2 h3=>by have h3:d<f.v.length:=h3;omega⟩
def gS (f:ab) (done:List Int):List Int→Prop
 |[]=>True
 |b::l=>(0≤b∧b<f.q.length)∧(0≤nearD f b→nearD f b∈done)∧gS f (done++[b]) l
theorem md.all {f:ab} (hF:O5 f):∀(l:List Int) {W:vQ} {done:List Int},md f W done→(∀u∈done,0≤u)→gS f done l→(done++l).Nodup→md f (l.foldl (k8 f) W) (done++l)
 |[],_,_,h,_,_,_=>by rw[w8];exact h
 |b::l,W,done,h,hd,hn,hnd=>by
  have hb:b ∉ done:=fun k=>(List.nodup_append.1 hnd).2.2 b k b (.head _) rfl;have:=md.all hF l (h.step hF hd hn.1.1 hn.1.2 hn.2.1 hb) (fun u hu=>by rcases List.mem_append.1 hu with k|k;exact hd u k;rw[List.mem_singleton.1 k];exact hn.1.1) hn.2.2 (by rw[qv];exact hnd)
  rwa [qv] at this
section
variable {f:ab}
theorem gS.app:∀{l m done:List Int},gS f done l→gS f (done++l) m→gS f done (l++m)
 |[],_,_,_,h=>by rwa [w8] at h
 |b::l,m,done,h,k=>⟨h.1,h.2.1,gS.app h.2.2 (by rw[qv];exact k)⟩
def Bz (f:ab) (b:Int):List Int:=(ba f.q.length).filter fun k=>!decide (k=b)&&(domF f b k&&decide (nearD f k=b))
theorem nL (n:Nat) (b:Int):iD f (n+1) b=b::(Bz f b).flatMap (iD f n):=rfl
theorem gT {b k:Int}:k∈Bz f b↔(0≤k∧k<f.q.length)∧k≠b∧domF f b k=true∧nearD f k=b:=by
 unfold Bz;rw[List.mem_filter,dR];simp only[wc,Bool.not_eq_true',decide_eq_false_iff_not,wi]
theorem BA:∀(n:Nat) (b:Int) (done:List Int),(0≤b∧b<f.q.length)→(0≤nearD f b→nearD f b∈done)→gS f done (iD f n b)
 |0,b,done,hb,hn=>⟨hb,hn,trivial⟩
 |n+1,b,done,hb,hn=>by
  rw[nL];refine ⟨hb,hn,?_⟩;have key:∀(ks:List Int) (don2:List Int),(∀k∈ks,k∈Bz f b)→b∈don2→gS f don2 (ks.flatMap (iD f n)):=fun ks=>by
   induction ks with
   |nil=>exact fun _ _ _=>trivial
   |cons k ks ih=>
    intro don2 hk hm;rw[List.flatMap_cons];have h1:=gT.1 (hk k (.head _));exact gS.app (BA n k don2 h1.1 fun _=>by rw[h1.2.2.2];exact hm) (ih _ (fun q hq=>hk q (.tail _ hq)) (List.mem_append_left _ hm))
  exact key _ _ (fun _ h=>h) (List.mem_append_right _ (.head _))
variable (hR:bq f)
include hR
theorem bq.levL {b:Int} (hb:0≤b∧b<f.q.length):0≤gi (cM (aj f) f.q.length) b:=hR.hE.grph.lev_nn (hR.memO hb)
theorem gU:∀(n:Nat) (b:Int),(0≤b∧b<f.q.length)→∀x∈iD f n b,g9 (aj f) b x∧0≤x∧x<f.q.length
 |0,b,hb,x,hx=>by
  rw[List.mem_singleton.1 hx];exact ⟨.refl ((b9 hR.hE.grph.toEOk b).1 (hR.memO hb)),hb⟩
 |n+1,b,hb,x,hx=>by
  rw[nL] at hx;rcases List.mem_cons.1 hx with rfl|hx
  ·exact ⟨.refl ((b9 hR.hE.grph.toEOk x).1 (hR.memO hb)),hb⟩
  obtain ⟨k,hk,hx⟩:=List.mem_flatMap.1 hx;have h1:=gT.1 hk;obtain ⟨g1,g2⟩:=gU n k h1.1 x hx;exact ⟨g9.trans ((hR.domF _ _).1 h1.2.2.1) g1,g2⟩
theorem bq.line:∀(m:Nat) {a b x:Int},(0≤x∧x<f.q.length)→gi (cM (aj f) f.q.length) x≤m→g9 (aj f) a x→g9 (aj f) b x→g9 (aj f) a b∨g9 (aj f) b a:=fun m=>by
 induction m with
 |zero=>
  intro a b x hx hl ha hb;have hm:=hR.memO hx
  by_cases h0:x=0
  ·have:=cQ hR.hE.grph ha (h0▸.root ha.rch);subst this;exact .inr hb
  have:=hR.hE.grph.lev_near hm h0;have:=hR.hE.grph.lev_nn (hR.hE.grph.near_mem hm h0).1;omega
 |succ m ih=>
  intro a b x hx hl ha hb
  by_cases ea:a=x
  ·subst ea;exact .inr hb
  by_cases eb:b=x
  ·subst eb;exact .inl ha
  have hm:=hR.memO hx;have h0:x≠0:=fun e=>ea (cQ hR.hE.grph ha (e▸.root ha.rch));have hl2:=hR.hE.grph.lev_near hm h0;have hy:=(hR.hE.grph.near_mem hm h0).1;exact ih (da hR.hE.grph.toEOk hy) (by omega) ((hR.near_dom hx h0).1 ⟨ha,ea⟩) ((hR.near_dom hx h0).1 ⟨hb,eb⟩)
theorem kn:∀(n:Nat) (b:Int),(0≤b∧b<f.q.length)→(iD f n b).Nodup
 |0,b,_=>by unfold iD;simp
 |n+1,b,hb=>by
  have hG:=hR.hE.grph;rw[nL,List.nodup_cons];refine ⟨fun h=>?_,?_⟩
  ·obtain ⟨k,hk,hx⟩:=List.mem_flatMap.1 h;have h1:=gT.1 hk;have:=(gU hR n k h1.1 b hx).1;exact h1.2.1 (cQ hG this ((hR.domF _ _).1 h1.2.2.1))
  have hkn:(Bz f b).Nodup:=by
   unfold Bz;refine List.Pairwise.filter _ ?_;unfold ba;rw[List.pairwise_map];exact List.nodup_range.imp fun h e=>h (Int.ofNat.inj e)
  unfold List.Nodup;rw[List.pairwise_flatMap];refine ⟨fun k hk=>kn n k (gT.1 hk).1,?_⟩;refine List.Pairwise.imp_of_mem ?_ hkn;rintro c d hc hd hne x hx y hy rfl;have hc:=gT.1 hc;have hd:=gT.1 hd;obtain ⟨x1,x2⟩:=gU hR n c hc.1 x hx;obtain ⟨y1,_⟩:=gU hR n d hd.1 x hy;have two:∀{c d:Int},(0≤d∧d<f.q.length)→d≠b→domF f b d=true→nearD f d=b→(c≠b∧domF f b c=true)→g9 (aj f) c d→c=d:=fun {c d} hd hdb h1 h2 hc h=>by
   refine Classical.byContradiction fun hne=>?_;have hd0:d≠0:=fun e=>by
    have:=cQ hG ((hR.domF _ _).1 h1) (e▸.root ((hR.domF _ _).1 h1).rch);exact hdb this.symm
   have h3:=(hR.near_dom hd hd0).1 ⟨h,hne⟩;rw[hR.nearD hd,if_neg hd0] at h2;rw[h2] at h3;exact hc.1 (cQ hG h3 ((hR.domF _ _).1 hc.2))
  rcases hR.line f.q.length x2 (by
   obtain ⟨j,rfl⟩:∃j:Nat,x=(j:Int):=⟨x.toNat,by omega⟩;have:=hR.lev (i:=j) (by omega);omega) x1 y1 with h|h
  ·exact hne (two hd.1 hd.2.1 hd.2.2.1 hd.2.2.2 ⟨hc.2.1,hc.2.2.1⟩ h)
  exact hne (two hc.1 hc.2.1 hc.2.2.1 hc.2.2.2 ⟨hd.2.1,hd.2.2.1⟩ h).symm
theorem uQ (n:Nat) {b:Int} (hb:0≤b∧b<f.q.length):(iD f n b).length≤f.q.length:=by
 have:=List.Nodup.length_le_of_subset (kn hR n b hb) (l₂:=ba f.q.length) fun x hx=>dR.2 (gU hR n b hb x hx).2
 rwa [cA] at this
theorem bq.child:∀(m:Nat) {b x:Int},(0≤x∧x<f.q.length)→gi (cM (aj f) f.q.length) x≤m→g9 (aj f) b x→b≠x→∃c,c∈Bz f b∧g9 (aj f) c x:=fun m=>by
 induction m with
 |zero=>
  intro b x hx hl h hne;have hm:=hR.memO hx
  by_cases h0:x=0
  ·exact absurd (cQ hR.hE.grph h (h0▸.root h.rch)) hne
  have:=hR.hE.grph.lev_near hm h0;have:=hR.hE.grph.lev_nn (hR.hE.grph.near_mem hm h0).1;omega
 |succ m ih=>
  intro b x hx hl h hne;have hm:=hR.memO hx;have h0:x≠0:=fun e=>hne (cQ hR.hE.grph h (e▸.root h.rch));have hl2:=hR.hE.grph.lev_near hm h0;have hy:=(hR.hE.grph.near_mem hm h0).1;have hyr:=da hR.hE.grph.toEOk hy;have hd:=(hR.near_dom hx h0).1 ⟨h,hne⟩
  by_cases e:b=gi (db (aj f) f.q.length) x
  ·refine ⟨x,gT.2 ⟨hx,fun e=>hne e.symm,(hR.domF _ _).2 h,?_⟩,.refl h.1⟩;rw[hR.nearD hx,if_neg h0,e]
  obtain ⟨c,hc,hcy⟩:=ih hyr (by omega) hd e;have hyx:g9 (aj f) (gi (db (aj f) f.q.length) x) x:=((hR.near_dom hx h0).2 (.refl ((b9 hR.hE.grph.toEOk _).1 hy))).1;exact ⟨c,hc,hcy.trans hyx⟩
theorem BB:∀(n:Nat) {b x:Int},(0≤b∧b<f.q.length)→(0≤x∧x<f.q.length)→(f.q.length:Int)≤n+gi (cM (aj f) f.q.length) b→g9 (aj f) b x→x∈iD f n b
 |0,b,x,hb,hx,hl,h=>by
  obtain ⟨j,rfl⟩:∃j:Nat,b=(j:Int):=⟨b.toNat,by omega⟩;have:=hR.lev (i:=j) (by omega);omega
 |n+1,b,x,hb,hx,hl,h=>by
  rw[nL]
  by_cases e:b=x
  ·rw[e];exact .head _
  obtain ⟨c,hc,hcx⟩:=hR.child f.q.length hx (by
   obtain ⟨j,rfl⟩:∃j:Nat,x=(j:Int):=⟨x.toNat,by omega⟩;have:=hR.lev (i:=j) (by omega);omega) h e
  have h1:=gT.1 hc;have hc0:c≠0:=fun e0=>h1.2.1 (by
   have:=(hR.domF _ _).1 h1.2.2.1;exact (cQ hR.hE.grph (e0▸.root this.rch) this))
  have hlev:=hR.hE.grph.lev_near (hR.memO h1.1) hc0;have hn:=h1.2.2.2;rw[hR.nearD h1.1,if_neg hc0] at hn;rw[hn] at hlev;exact .tail _ (List.mem_flatMap.2 ⟨c,hc,BB n h1.1 hx (by omega) hcx⟩)
def ri (f:ab) (r:uI):Prop:=(0≤r.a∧r.a<f.v.length)∧0≤r.b∧r.b<f.v.length
omit hR in
theorem uR {q:iS} (h:∀r∈q.out,ri f r) {a b n:Int} (hr:ri f ⟨a,b,n⟩):∀r∈(fW q a b n).out,ri f r:=by
 unfold fW;split
 ·exact h
 intro r hm;rcases List.mem_append.1 hm with hm|hm
 ·exact h r hm
 rw[List.mem_singleton.1 hm];exact hr
theorem BC:∀(n:Nat) (q:iS) (c:Int) (is:Bool),(∀r∈q.out,ri f r)→∀r∈(gY f n q c is).out,ri f r
 |0,q,_,_,h=>h
 |n+1,q,c,is,h=>by
  unfold gY;split
  ·exact h
  split
  ·exact h
  rename_i x hx;obtain ⟨hF,_,_⟩:=hR.madeF hx;have a0:∀{k:Int},x.op=k→0<([0,1,2,2,2,2,2,2,2,2,1,2,1,2,3,1,0,1,2,1,1,2,2,2,1,2,2][k.toNat]?).getD 0→(0≤dH x∧dH x<f.v.length):=fun e h=>(hF.a0 (by rw[hF.cnt e];exact h)).symm;have a1:∀{k:Int},x.op=k→1<([0,1,2,2,2,2,2,2,2,2,1,2,1,2,3,1,0,1,2,1,1,2,2,2,1,2,2][k.toNat]?).getD 0→(0≤fw x∧fw x<f.v.length):=fun e h=>(hF.a1 (by rw[hF.cnt e];exact h)).symm;split
  ·exact BC n ⟨_,_⟩ _ _ h
  split
  ·exact BC n ⟨_,_⟩ _ _ h
  split
  ·split
   ·exact BC n _ _ _ (BC n ⟨_,_⟩ _ _ h)
   exact h
  split
  ·rename_i e;split
   ·exact uR (q:=⟨q.seen++[(c,is)],q.out⟩) h ⟨a0 e (by decide),a1 e (by decide)⟩
   exact uR (q:=⟨q.seen++[(c,is)],q.out⟩) h ⟨a1 e (by decide),a0 e (by decide)⟩
  split
  ·rename_i e;split
   ·exact uR (q:=⟨q.seen++[(c,is)],q.out⟩) h ⟨a0 e (by decide),a1 e (by decide)⟩
   exact uR (q:=⟨q.seen++[(c,is)],q.out⟩) h ⟨a1 e (by decide),a0 e (by decide)⟩
  split
  ·rename_i e;split
   ·exact uR (q:=⟨q.seen++[(c,is)],q.out⟩) h ⟨a0 e (by decide),a1 e (by decide)⟩
   exact h
  exact h
theorem OB (i:Int):∀r∈jT f i,ri f r:=by
 unfold jT;split
 ·split
  ·exact BC hR _ _ _ _ fun r hr=>(by cases hr)
  exact fun r hr=>(by cases hr)
 exact fun r hr=>(by cases hr)
theorem bq.inf:O5 f where
 args b hb y hy a ha:=(bz ((hR.run.s b hb y hy).1.args a ha)).symm
 two b hb y hy e:=by
  have hF:=(hR.run.s b hb y hy).1;have hl:y.args.length=2:=hF.cnt e
  match h:y.args,hl with
  |[a,c],_=>exact ⟨a,c,rfl⟩
 t b hb hk:=(bz (gl (hR.run.t b hb) hk)).symm
 rel i r hr:=OB hR i r hr
theorem bq.ordB:gS f [] (iD f f.q.length 0):=BA _ 0 [] ⟨Int.le_refl _,by have:=hR.hE.pos;omega⟩ fun h=>by
 rw[hR.nearD ⟨Int.le_refl _,by have:=hR.hE.pos;omega⟩,if_pos rfl] at h;omega
theorem bq.ordAll {x:Int} (hx:0≤x∧x<f.q.length):x∈iD f f.q.length 0:=by
 have hp:(0:Int)<f.q.length:=by have:=hR.hE.pos;omega
 refine BB hR _ ⟨Int.le_refl _,hp⟩ hx ?_ (.root ((b9 hR.hE.grph.toEOk x).1 (hR.memO hx)));have:=hR.levL ⟨Int.le_refl _,hp⟩;omega
theorem me:md f (cg f) (iD f f.q.length 0):=by
 have:=md.all hR.inf _ (md.first f) (fun _ h=>by cases h) hR.ordB (by rw[List.nil_append];exact kn hR _ 0 ⟨Int.le_refl _,by have:=hR.hE.pos;omega⟩)
 rwa [List.nil_append] at this
structure IQ (f g:ab) (rts:List Int):Prop where
 v:∃l,g.v=f.v++l
 len:g.v.length=f.v.length+rts.length
 rt:∀r∈rts,0≤r∧r<f.v.length
 par:g.z=f.z
 bl:g.q.length=f.q.length
 blk:∀i:Int,0≤i→i<f.q.length→ob f rts i (aQ g i)
 mkd:∀d:Int,f.v.length≤d→d<g.v.length→∃(i k:Nat) (x:aB),uF g i k x∧x.dst=d
theorem pM (k:Nat):(bh f).q[k]?=((f.q[k]?).bind fun b=>((cg f).blks[k]?).map fun c=>{ c with p:=b.p.map (ga (cg f).ends) }):=by
 show ((f.q.zip _).map _)[k]?=_;rw[w3];cases h1:f.q[k]? with
 |none=>
  have:(f.q.zip (cg f).blks)[k]?=none:=by
   rw[List.getElem?_eq_none_iff,List.length_zip];have:=List.getElem?_eq_none_iff.1 h1;omega
  rw[this];rfl
 |some b=>
  cases h2:(cg f).blks[k]? with
  |none=>
   have:(f.q.zip (cg f).blks)[k]?=none:=by
    rw[List.getElem?_eq_none_iff,List.length_zip];have:=List.getElem?_eq_none_iff.1 h2;omega
   rw[this];rfl
  |some c=>
   have h3:(f.q.zip (cg f).blks)[k]?=some (b,c):=List.getElem?_zip_eq_some.2 ⟨h1,h2⟩;rw[h3];rfl
theorem fH:IQ f (bh f) (cg f).rts:=by
 have hW:=me hR;obtain ⟨l,hl⟩:=hW.vok.pre;have hlen:(bh f).q.length=f.q.length:=by
  show ((f.q.zip _).map _).length=_;rw[w2,List.length_zip,hW.bl,Nat.min_self]
 refine ⟨⟨l,hl⟩,hW.vok.len,hW.vok.rt,U,hlen,fun i h0 h1=>?_,fun d h2 h3=>?_⟩
 ·obtain ⟨c,hc,hk⟩:=hW.blks i (hR.ordAll ⟨h0,h1⟩);have hb:f.q[i.toNat]?=some (aQ f i):=dY h0 h1;have hg:(bh f).q[i.toNat]?=some { c with p:=(aQ f i).p.map (ga (cg f).ends) }:=by rw[pM hR,hb,hc];rfl
  have e:aQ (bh f) i={ c with p:=(aQ f i).p.map (ga (cg f).ends) }:=by unfold aQ;rw[hg];rfl
  rw[e];exact ⟨hk.name,hk.frm,hk.img,hk.kind,hk.to0,hk.to1,hk.var,hk.var0⟩
 obtain ⟨b,hb,c,hc,x,hx,e⟩:=hW.mkd d h2 h3;have hbr:=(gU hR _ 0 ⟨Int.le_refl _,by have:=hR.hE.pos;omega⟩ b hb).2;obtain ⟨k,hk⟩:=List.getElem?_of_mem hx;refine ⟨b.toNat,k,x,⟨{ c with p:=(aQ f b).p.map (ga (cg f).ends) },?_,hk⟩,e⟩;rw[pM hR,dY hbr.1 hbr.2,hc];rfl
end
end
end Go.Proofs.YtbbonnfjealmpaaGreatDoor
