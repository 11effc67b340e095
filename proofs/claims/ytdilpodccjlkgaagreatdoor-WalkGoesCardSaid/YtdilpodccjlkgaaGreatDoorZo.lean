/- The walk's facts, written: two nodes have one number. Of facts of nodes that there are. -/
import Derived.Test.YtdilpodccjlkgaaGreatDoorZn
import Derived.Test.YtdilpodccjlkgaaGreatDoorZd
import Derived.Test.YtdilpodccjlkgaaGreatDoorZf
import Derived.Test.YtdilpodccjlkgaaGreatDoorZm
import Derived.Test.YtdilpodccjlkgaaGreatDoorZc
set_option linter.unusedVariables false
set_option linter.unusedSimpArgs false
set_option linter.unusedSectionVars false
namespace Go.Proofs.YtdilpodccjlkgaaGreatDoor
open Go.Proofs.Tryz
theorem tF {f:ac} {v:Int} {y:aF} (h:dx f v=some y):∃j k:Nat,zP f j k y∧y.dst=v∧aL f v=((j:Int),(k:Int)):=by
 unfold dx at h
 split at h
 ·rename_i h0
  obtain ⟨i,b,h1,h2,h3⟩:=gt h0.1
  rcases h3 with ⟨_,_,_,h4⟩|⟨k,x,h4,h5,h6⟩
  ·omega
  ·rw[h2,h6,Int.toNat_natCast,Int.toNat_natCast,h1] at h
   have h:b.insts[k]?=some y:=h
   rw[h4] at h
   cases h
   exact ⟨i,k,⟨b,h1,h4⟩,h5,Prod.ext h2 h6⟩
 ·cases h
theorem Dp {f:ac} {s:GS} (hg:bn f s) (h64:kY s) (hu:∀v:Int,f.params.length≤v→v<f.vars.length→(aL f v).1<0→vi s.ints v=0):fH f s (dF f):=by
 unfold dF
 have nn:0≤dW f:=kW
 have hno:=qI hg
 have key:∀(l:List Int) (K:KS),fH f s K→(∀v∈l,0≤v∧v<f.vars.length)→fH f s (l.foldl (gE f) K):=fun l=>by
  induction l with
  |nil=>exact fun _ h _=>h
  |cons v l ih=>
   intro K h hl
   refine ih _ ?_ fun q hq=>hl q (.tail _ hq)
   obtain ⟨h0,h1⟩:=hl v (.head _)
   unfold gE
   split
   ·rename_i h2
    have:=GH h2 hg h64 ⟨h1,h0⟩
    exact (h.add ⟨h0,nn⟩ (by omega)).add ⟨nn,h0⟩ (by omega)
   ·split
    ·rename_i h2
     exact h.both ⟨h0,nn⟩ (by rw[ma h2.1,hno];exact hu v h2.2.1 h1 h2.2.2)
    ·exact h
 exact key _ _ ⟨fun q hq=>(by cases hq),fun q hq=>(by cases hq)⟩ fun v hv=>cK.1 hv
theorem Dq {f:ac} {s:GS} (hg:bn f s) (hf:fH f s (dF f)):∀l:List Int,(∀a∈l,(∀x∈(bT f a).insts,PX s x∧bM f x∧dN f x=true)∧∀r∈Ea f a,iY f s r)→fH f s (vE f l)
 |[],_=>hf
 |a::l,h=>by
  have ih:=Dq hg hf l fun q hq=>h q (.tail _ hq)
  exact fH.stps hg _ _ (fH.rels _ _ ih (h a (.head _)).2) (h a (.head _)).1
section
variable {f:ac} (hR:b5 f)
include hR
theorem gx.good {s:GS} (hI:gx f s):F1 f s (fun v=>Av f s.blk s.pc v):=fun v y hv hy=>by
 obtain ⟨j,k,hat,hd,hm⟩:=tF hy
 obtain ⟨hF,hT⟩:=hR.inF hat
 have hv:cY f (aL f v) s.blk s.pc:=hv
 rw[hm] at hv
 exact ⟨⟨hI.px j k y hat hv,hF,hT,hd⟩,fun a ha=>nX (p:=((j:Int),(k:Int))) hR.hE (hR.av hat a ha) hv (by dsimp only;omega)⟩
theorem gx.rels {s:GS} (hI:gx f s) {a:Int} (hd:gJ (ah f) a s.blk):∀r∈Ea f a,iY f s r:=by
 unfold Ea
 split
 ·rename_i p hp
  split
  ·rename_i hk
   obtain ⟨hav,h0⟩:=hR.brAv hd.rch hp hk.1
   obtain ⟨_,h2,h3⟩:=hR.one hd.rch hp
   have hG:=hR.hE.grph
   refine Dn (hI.good hR) ?_ (hI.br a p hd hp hk.1 hk.2)
   rcases hav with h|⟨e,_⟩|⟨g0,g1,g2⟩
   ·exact .inl h
   ·refine .inr (.inr ⟨?_,fun e2=>?_,?_⟩)
    ·obtain ⟨g1,_⟩:=hR.pred hp
     have hp:0≤p∧p<f.blocks.length:=Classical.byContradiction fun hn=>by rw[f7 hn] at g1;cases g1
     omega
    ·rw[e] at e2;subst e2
     exact h3 (fk hG h2 hd)
    ·rw[e];exact h2.trans hd
   ·refine .inr (.inr ⟨g0,fun e2=>?_,(g2.trans h2).trans hd⟩)
    rw[e2] at g2
    exact h3 (fk hG h2 (hd.trans g2))
  ·exact fun r hr=>(by cases hr)
 ·exact fun r hr=>(by cases hr)
theorem gx.place {s:GS} (hI:gx f s):fH f s (B6 f s.blk s.pc):=by
 have hG:=hR.hE.grph
 obtain ⟨i,hi⟩:∃i:Nat,s.blk=(i:Int):=⟨s.blk.toNat,by have:=hI.g.b0;omega⟩
 have hil:i<f.blocks.length:=by have:=hI.g.b1;omega
 have hrch:om (ah f) s.blk:=by rw[hi];exact hR.hs.2.1 i hil
 have hmem:=(bP hG.toEOk s.blk).2 hrch
 have all:∀a:Int,0≤a→a<f.blocks.length→(∀(k:Nat) (x:aF),(bT f a).insts[k]?=some x→cY f (a,(k:Int)) s.blk s.pc→PX s x∧bM f x∧dN f x=true):=fun a h0 h1 k x hx ha=>by
  obtain ⟨j,rfl⟩:∃j:Nat,a=(j:Int):=⟨a.toNat,by omega⟩
  have hb:=qt (show j<f.blocks.length by omega)
  rw[dQ hb] at hx
  have hat:zP f j k x:=⟨_,hb,hx⟩
  exact ⟨hI.px j k x hat ha,hR.inF hat⟩
 unfold B6
 refine fH.stps hI.g _ _ (fH.rels _ _ (Dq hI.g (Dp hI.g hI.r64 hI.un) _ fun a ha=>?_) (hI.rels hR (.refl hrch))) fun x hx=>?_
 ·have:a≠s.blk∧gJ (ah f) a s.blk:=by
   unfold Eb at ha
   obtain ⟨m,hm⟩:∃m,f.blocks.length=m+1:=⟨f.blocks.length - 1,by omega⟩
   have hlen:(aB (ah f) f.blocks.length).length≤f.blocks.length:=eZ hG
   have hlv:gi (bO (ah f) f.blocks.length) s.blk<m+1:=by
    have:=hG.at_lt hmem
    have:=tf hG hmem
    omega
   have hch:cZ (bt (ah f) f.blocks.length) f.blocks.length s.blk=s.blk::if s.blk=0 then[] else cZ (bt (ah f) f.blocks.length) m (gi (bt (ah f) f.blocks.length) s.blk):=by
    conv=>lhs;rw[show cZ (bt (ah f) f.blocks.length) f.blocks.length s.blk=cZ (bt (ah f) f.blocks.length) (m+1) s.blk from by rw[←hm]]
    rfl
   rw[hch,List.tail_cons] at ha
   split at ha
   ·cases ha
   ·rename_i h0
    obtain ⟨g1,_⟩:=hG.near_mem hmem h0
    have hl:=hG.lev_near hmem h0
    have hanc:=(ll hG m _ g1 (by omega)).1 ha
    have hla:=hG.lev_anc g1 hanc
    refine ⟨fun e=>by rw[e] at hla;omega,?_⟩
    exact (hG.dom_iff hmem).2 (.up h0 (hG.exact.has s.blk hmem) hanc)
  obtain ⟨hne,hd⟩:=this
  have har:=de hG.toEOk ((bP hG.toEOk a).2 hd.rch)
  refine ⟨fun x hx=>?_,hI.rels hR hd⟩
  obtain ⟨k,hk,e⟩:=List.getElem_of_mem hx
  exact all a har.1 har.2 k x (by rw[qt hk,e]) (.inr (.inr ⟨har.1,hne,hd⟩))
 ·obtain ⟨k,hk,e⟩:=List.getElem_of_mem hx
  have hk2:=hk
  rw[w7] at hk2
  rw[List.getElem_take] at e
  exact all s.blk hI.g.b0 hI.g.b1 k x (by rw[qt (by omega),e]) (.inr (.inl ⟨rfl,by dsimp only;omega⟩))
theorem gx.goes {s:GS} (hI:gx f s) (hx:(bT f s.blk).insts.length=s.pc) (hk:(bT f s.blk).term.kind=1) (n:Nat) :
  (fm f (B6 f s.blk s.pc) n (bT f s.blk).term.var=1→gb s.bools (bT f s.blk).term.var=true)∧(fm f (B6 f s.blk s.pc) n (bT f s.blk).term.var=2→gb s.bools (bT f s.blk).term.var=false):=by
 refine qM (hI.good hR) (hI.place hR) n _ ?_
 obtain ⟨i,hi⟩:∃i:Nat,s.blk=(i:Int):=⟨s.blk.toNat,by have:=hI.g.b0;omega⟩
 have hil:i<f.blocks.length:=by have:=hI.g.b1;omega
 have hb:=qt hil
 rw[hi,dQ hb] at hx hk ⊢
 have:=(hR.hs.2.2.2 i hil).2.2
 rw[hx] at this
 exact this.resolve_left (by omega)
end
end Go.Proofs.YtdilpodccjlkgaaGreatDoor
namespace Go.Proofs.YtdilpodccjlkgaaGreatDoor
open Go.Proofs.Tryz
structure KB (f:ac) (K:KS):Prop where
 fac:∀q∈K.l,Cb (f.vars.length+1) q∧(-bL≤q.c∧q.c≤bL)
 len:K.l.length≤8192
def aU (f:ac) (v:Int):Prop:=0≤v∧v≤f.vars.length
section
variable {f:ac} {K:KS}
theorem KB.emp (f:ac):KB f ⟨[],[]⟩:=⟨fun q hq=>(by cases hq),by decide⟩
theorem KB.pass (h:KB f K) (p:List (Int × List Int)):KB f ⟨K.l,p⟩:=⟨h.fac,h.len⟩
theorem fZ:aU f (dW f):=by unfold aU dW;omega
theorem KB.add (h:KB f K) {a b c:Int} (ha:aU f a) (hb:aU f b):KB f (em K a b c):=by
 unfold em
 split
 ·rename_i hc
  refine ⟨fun q hq=>?_,by simp;omega⟩
  rcases List.mem_append.1 hq with hq|hq
  ·exact h.fac q hq
  ·rw[List.mem_singleton.1 hq]
   unfold aU at ha hb
   unfold Cb oD
   dsimp only
   omega
 ·exact h
theorem KB.addO (h:KB f K) {a b:Int} {o:Option Int} (ha:aU f a) (hb:aU f b):KB f (addO K a b o):=by cases o with|none=>exact h|some c=>exact h.add ha hb
theorem KB.both (h:KB f K) {a b:Int} (ha:aU f a) (hb:aU f b):KB f (iz K a b):=(h.add ha hb).add hb ha
theorem cO {v:Int} (h:v<f.vars.length∧0≤v):aU f v:=⟨h.2,by omega⟩
theorem KB.stp (h:KB f K) {x:aF} (hF:bM f x):KB f (ec f K x):=by
 have a0:∀{k:Int},x.op=k→0<([0,1,2,2,2,2,2,2,2,2,1,2,1,2,3,1,0,1,2,1,1,2,2,2,1,2,2][k.toNat]?).getD 0→aU f (bj x):=fun e h=>cO (hF.a0 (by rw[hF.cnt e];exact h))
 have a1:∀{k:Int},x.op=k→1<([0,1,2,2,2,2,2,2,2,2,1,2,1,2,3,1,0,1,2,1,1,2,2,2,1,2,2][k.toNat]?).getD 0→aU f (b7 x):=fun e h=>cO (hF.a1 (by rw[hF.cnt e];exact h))
 have nn:aU f (dW f):=fZ
 unfold ec
 split
 ·unfold lN
  have hp:=h.pass (K.p++[(x.op,x.args)])
  split
  ·rename_i e;exact (hp.add nn (a1 e (by decide))).add (a1 e (by decide)) (a0 e (by decide))
  split
  ·rename_i _ e;exact (hp.add nn (a0 e (by decide))).add (a0 e (by decide)) nn
  split
  ·rename_i _ _ e
   split
   ·exact hp.add nn (a0 e (by decide))
   ·split
    ·exact hp.add (a0 e (by decide)) nn
    ·exact hp
  ·exact hp
 ·unfold lM
  split
  ·rename_i e
   have hd:=cO (hF.d e.1 rfl)
   exact (h.add hd nn).add nn hd
  split
  ·rename_i _ e
   rcases e with e|e|e
   ·exact h.both (cO (hF.d e.1 rfl)) (a0 e.1 (by decide))
   ·exact h.both (cO (hF.d e rfl)) (a0 e (by decide))
   ·exact h.both (cO (hF.d e rfl)) (a0 e (by decide))
  split
  ·rename_i e;exact h.both (cO (hF.d e rfl)) nn
  split
  ·rename_i e
   have hd:aU f x.dst:=by rcases e with e|e<;>exact cO (hF.d e rfl)
   have h0:aU f (bj x):=by rcases e with e|e<;>exact a0 e (by decide)
   have h1:aU f (b7 x):=by rcases e with e|e<;>exact a1 e (by decide)
   unfold mN
   split
   ·exact h
   ·split
    ·exact (h.addO hd h0).addO h0 hd
    ·exact (((h.addO hd h0).addO h0 hd).addO hd h1).addO h1 hd
  split
  ·rename_i e
   have hd:aU f x.dst:=by rcases e with e|e<;>exact cO (hF.d e rfl)
   have h0:aU f (bj x):=by rcases e with e|e<;>exact a0 e (by decide)
   have h1:aU f (b7 x):=by rcases e with e|e<;>exact a1 e (by decide)
   have hA:KB f (eU f K x):=by
    unfold eU
    split
    ·exact (h.add nn hd).add hd h0
    ·exact h
   unfold iX
   split
   ·exact hA.add hd h1
   ·exact hA
  ·exact h
theorem KB.stps:∀(l:List aF) (K:KS),KB f K→(∀x∈l,bM f x)→KB f (l.foldl (ec f) K)
 |[],_,h,_=>h
 |x::l,_,h,hl=>KB.stps l _ (h.stp (hl x (.head _))) fun q hq=>hl q (.tail _ hq)
theorem KB.rel (h:KB f K) {r:ww} (ha:aU f r.a) (hb:aU f r.b):KB f (gu K r):=by
 unfold gu
 split
 ·exact h.add ha hb
 ·split
  ·exact h.add ha hb
  ·split
   ·exact h.both ha hb
   ·exact h
theorem KB.first:KB f (dF f):=by
 unfold dF
 have key:∀(l:List Int) (K:KS),KB f K→(∀v∈l,0≤v∧v<f.vars.length)→KB f (l.foldl (gE f) K):=fun l=>by
  induction l with
  |nil=>exact fun _ h _=>h
  |cons v l ih=>
   intro K h hl
   refine ih _ ?_ fun q hq=>hl q (.tail _ hq)
   obtain ⟨h0,h1⟩:=hl v (.head _)
   have hv:aU f v:=⟨h0,by omega⟩
   unfold gE
   split
   ·exact (h.add hv fZ).add fZ hv
   ·split
    ·exact h.both hv fZ
    ·exact h
 exact key _ _ (KB.emp f) fun v hv=>cK.1 hv
end
end Go.Proofs.YtdilpodccjlkgaaGreatDoor
namespace Go.Proofs.YtdilpodccjlkgaaGreatDoor
open Go.Proofs.Tryz
def ro (f:ac) (v:Int):Nat:=if 0≤(aL f v).1∧0≤(aL f v).2 then (gi (bO (ah f) f.blocks.length) (aL f v).1).toNat*1025+(aL f v).2.toNat+1 else 0
theorem mQ:∀(l:List aX) (b:aX),b∈l→b.insts.length≤fF l
 |c::l,b,h=>by
  have e:fF (c::l)=c.phis.length+c.insts.length+fF l:=by unfold fF;simp
  rcases List.mem_cons.1 h with rfl|h
  ·omega
  ·have:=mQ l b h;omega
section
variable {f:ac} (hR:b5 f)
include hR
theorem b5.insts {i k:Nat} {x:aF} (h:zP f i k x):k<1024∧i<f.blocks.length:=by
 obtain ⟨b,hb,hx⟩:=h
 have h1:=mQ _ _ (w4 hb)
 have h2:=hR.hS.2.2.2.2.1
 have h3:=(List.getElem?_eq_some_iff.1 hx).1
 exact ⟨by omega,(List.getElem?_eq_some_iff.1 hb).1⟩
theorem b5.nblk:f.blocks.length≤64:=by
 have h:=hR.hS.1
 unfold nf at h
 simp only[Bool.or_eq_false_iff,decide_eq_false_iff_not] at h
 omega
theorem b5.lev {i:Nat} (hi:i<f.blocks.length):0≤gi (bO (ah f) f.blocks.length) (i:Int)∧gi (bO (ah f) f.blocks.length) (i:Int)<f.blocks.length:=by
 have hG:=hR.hE.grph
 have hm:=(bP hG.toEOk (i:Int)).2 (hR.hs.2.1 i hi)
 have:=hG.lev_nn hm
 have:=tf hG hm
 have:=hG.at_lt hm
 have:=eZ hG
 omega
theorem b5.rk_arg {v:Int} {y:aF} (h:dx f v=some y):∀a∈y.args,ro f a<ro f v:=fun a ha=>by
 obtain ⟨j,k,hat,hd,hm⟩:=tF h
 have hav:=hR.av hat a ha
 have hG:=hR.hE.grph
 have ev:ro f v=(gi (bO (ah f) f.blocks.length) (j:Int)).toNat*1025+k+1:=by
  unfold ro;rw[hm,if_pos ⟨by dsimp only;omega,by dsimp only;omega⟩];rfl
 rw[ev]
 unfold ro
 split
 ·rename_i h0
  obtain ⟨i,b,h1,h2,h3⟩:=gt h0.1
  rcases h3 with ⟨_,_,_,h4⟩|⟨q,x,h4,h5,h6⟩
  ·omega
  ·have hat2:zP f i q x:=⟨b,h1,h4⟩
   have hb:=hR.insts hat2
   unfold Av at hav
   have hm2:aL f a=((i:Int),(q:Int)):=Prod.ext h2 h6
   rw[hm2] at hav ⊢
   have l1:=hR.lev hb.2
   have l2:=hR.lev (hR.insts hat).2
   rcases hav with g|⟨g1,g2⟩|⟨_,g1,g2⟩
   ·dsimp only at g;omega
   ·dsimp only at g1 g2 ⊢
    rw[g1,Int.toNat_natCast];omega
   ·dsimp only at g1 g2 ⊢
    have hmj:=(bP hG.toEOk (j:Int)).2 g2.1
    have hla:=hG.lev_anc hmj ((hG.dom_iff hmj).1 g2)
    have:gi (bO (ah f) f.blocks.length) (i:Int)<gi (bO (ah f) f.blocks.length) (j:Int):=by
     rcases Int.lt_or_le (gi (bO (ah f) f.blocks.length) (i:Int)) (gi (bO (ah f) f.blocks.length) (j:Int)) with h|h
     ·exact h
     ·exact absurd (hla.2.2 h) g1
    rw[Int.toNat_natCast];omega
 ·omega
theorem b5.rk_low (v:Int):ro f v<100000:=by
 unfold ro
 split
 ·rename_i h0
  obtain ⟨i,b,h1,h2,h3⟩:=gt h0.1
  rcases h3 with ⟨_,_,_,h4⟩|⟨q,x,h4,h5,h6⟩
  ·omega
  ·have hat2:zP f i q x:=⟨b,h1,h4⟩
   have hb:=hR.insts hat2
   have l1:=hR.lev hb.2
   have:=hR.nblk
   rw[h2,h6,Int.toNat_natCast]
   omega
 ·omega
theorem b5.madeF {v:Int} {y:aF} (h:dx f v=some y):bM f y∧dN f y=true∧y.dst=v:=by
 obtain ⟨j,k,hat,hd,_⟩:=tF h
 exact ⟨(hR.inF hat).1,(hR.inF hat).2,hd⟩
def vF (f:ac) (r:ww):Prop:=(aU f r.a∧aU f r.b)∧(0≤r.n∧r.n≤2)
omit hR in
theorem qN {q:kw} (h:∀r∈q.out,vF f r) {a b n:Int} (hr:vF f ⟨a,b,n⟩):∀r∈(fa q a b n).out,vF f r:=by
 unfold fa
 split
 ·exact h
 ·intro r hm
  rcases List.mem_append.1 hm with hm|hm
  ·exact h r hm
  ·rw[List.mem_singleton.1 hm];exact hr
theorem sJ:∀(n:Nat) (q:kw) (c:Int) (is:Bool),(∀r∈q.out,vF f r)→∀r∈(kx f n q c is).out,vF f r
 |0,q,_,_,h=>h
 |n+1,q,c,is,h=>by
  unfold kx
  split
  ·exact h
  split
  ·exact h
  rename_i x hx
  obtain ⟨hF,_,_⟩:=hR.madeF hx
  have a0:∀{k:Int},x.op=k→0<([0,1,2,2,2,2,2,2,2,2,1,2,1,2,3,1,0,1,2,1,1,2,2,2,1,2,2][k.toNat]?).getD 0→aU f (bj x):=fun e h=>cO (hF.a0 (by rw[hF.cnt e];exact h))
  have a1:∀{k:Int},x.op=k→1<([0,1,2,2,2,2,2,2,2,2,1,2,1,2,3,1,0,1,2,1,1,2,2,2,1,2,2][k.toNat]?).getD 0→aU f (b7 x):=fun e h=>cO (hF.a1 (by rw[hF.cnt e];exact h))
  split
  ·exact sJ n ⟨_,_⟩ _ _ h
  split
  ·exact sJ n ⟨_,_⟩ _ _ h
  split
  ·split
   ·exact sJ n _ _ _ (sJ n ⟨_,_⟩ _ _ h)
   ·exact h
  split
  ·rename_i e
   split
   ·exact qN (q:=⟨q.seen++[(c,is)],q.out⟩) h ⟨⟨a0 e (by decide),a1 e (by decide)⟩,by dsimp only;omega⟩
   ·exact qN (q:=⟨q.seen++[(c,is)],q.out⟩) h ⟨⟨a1 e (by decide),a0 e (by decide)⟩,by dsimp only;omega⟩
  split
  ·rename_i e
   split
   ·exact qN (q:=⟨q.seen++[(c,is)],q.out⟩) h ⟨⟨a0 e (by decide),a1 e (by decide)⟩,by dsimp only;omega⟩
   ·exact qN (q:=⟨q.seen++[(c,is)],q.out⟩) h ⟨⟨a1 e (by decide),a0 e (by decide)⟩,by dsimp only;omega⟩
  split
  ·rename_i e
   split
   ·exact qN (q:=⟨q.seen++[(c,is)],q.out⟩) h ⟨⟨a0 e (by decide),a1 e (by decide)⟩,by dsimp only;omega⟩
   ·exact h
  ·exact h
theorem IA (i:Int):∀r∈Ea f i,vF f r:=by
 unfold Ea
 split
 ·split
  ·exact sJ hR _ _ _ _ fun r hr=>(by cases hr)
  ·exact fun r hr=>(by cases hr)
 ·exact fun r hr=>(by cases hr)
omit hR in
theorem KB.rels:∀(l:List ww) (K:KS),KB f K→(∀r∈l,vF f r)→KB f (l.foldl gu K)
 |[],_,h,_=>h
 |r::l,_,h,hl=>KB.rels l _ (h.rel (hl r (.head _)).1.1 (hl r (.head _)).1.2) fun q hq=>hl q (.tail _ hq)
theorem KB.entr {K:KS} (h:KB f K) (i:Int):KB f (nY f K i):=KB.rels _ _ h (IA hR i)
theorem b5.blkF {i:Int} (h0:0≤i) (h1:i<f.blocks.length):∀x∈(bT f i).insts,bM f x:=fun x hx=>(hR.run.insts _ (mK h0 h1) x hx).1
end
end Go.Proofs.YtdilpodccjlkgaaGreatDoor
namespace Go.Proofs.YtdilpodccjlkgaaGreatDoor
open Go.Proofs.Tryz
open Go.Proofs Go.Lib Go.Shelf Go.RowKit
theorem E9:dB prog 54 #[(0,1),(1,1),(2,1),(3,1)] [.int .i64 0,.int .i64 0,.raw (.slice none 0 0),.int .i64 0]:=⟨_,_,j5,Zh,fun w=>by kernel_rfl,rfl⟩
variable {E:World}
set_option maxRecDepth 20000
def b9 (q:Int × List Int):List AV:=[.int .i64 q.1,.fro 1 (q.2.map cX)]
def vG (P:List (Int × List Int)):Prop:=P.length≤1000000∧∀q∈P,q.2.length≤1000
def xE (f:ac) (K:KS) (t pr:AV):AV:=wQ (.fro 2 (f.vars.map gC)) (.fro 1 (f.params.map cX)) (.fro 7 (f.blocks.map dh)) t (.fro 2 ((cf f).map eP.row)) pr (f.vars.length+1) K.l (dW f) (.fro 2 (K.p.map b9))
theorem iB {f:ac} {K:KS} (hv:f.vars.length≤1000) (h:KB f K):pd (f.vars.length+1) K.l:=⟨by omega,h.fac,by have:=h.len;omega⟩
theorem fx {f:ac} {v:Int} (h:aU f v):oD (f.vars.length+1) v:=by unfold aU at h;unfold oD;omega
theorem cU {x:aF} (h:0<x.args.length):x.args[0]?=some (bj x):=by unfold bj;rw[qt h];rfl
theorem du {x:aF} (h:1<x.args.length):x.args[1]?=some (b7 x):=by unfold b7;rw[qt h];rfl
theorem GL (op:Int) (k:Nat) (hk:k≤2) (hop:op=21+(k:Int)) {a b:fJ} (ha:mu a) (hb:mu b):aM prog E 158 [.int .i64 op,.agg (m7 a),.agg (m7 b)] (.bool (decide (a.2<a.1∨b.2<b.1∨kg k a b))):=by
 have hcp:=uv k a b
 have hop2:2+op - 21=2+(k:Int):=by omega
 refine zp func158 Z (by decide) Z<|ai<|ya (cs:=_) Z Z Z<|ya (cs:=_) Z Z Z<|ab Z<|z6<|zd<|zd<|ye (γ:=Bool) [0,4,5] (fun u=>[(12,.bool u)]) (fun u=>[]) (fun u=>u=true) ?_ (fun _ _ h=>h) ?_
 ·refine aW<|aa Z<|za (q5 Z Z)<|aj Z<|zq (s:=9) Z (fun c=>?_) (fun c=>?_)
  ·refine z8 Z Z c<|aa Z<|z8 Z Z c<|za (Gv.leq Z Z)<|aw Z c Z<|z6 ?_
   exact ⟨_,db,aK,aH,by simp_all<;>omega⟩
  ·exfalso;simp at c;omega
 ·rintro u hu
  subst hu
  refine yt Z Z<|aW<|aa Z<|aE Z Z<|za (Gv.sub Z Z (by unfold lE;omega))<|ao Z<|z6<|ai<|aa Z<|zh (FW _) Z<|aj Z<|zq (s:=18) Z (fun c1=>?_) (fun c1=>?_)
  ·refine z8 Z Z c1<|ae Y5 Za Z Z<|z8 Z Z c1<|zh (m8 _) Z<|z8 Z Z c1<|aj Z<|zq (s:=21) Z (fun c2=>?_) (fun c2=>?_)
   ·refine z7 Z Z c2<|z7 Z Z c2<|z8 Z Z c1<|aw Z c2 Z<|z8 Z Z c1<|aj Z<|z7 Z Z Z<|z7 Z Z Z<|z7 Z Z Z<|z7 Z Z Z<|z7 Z Z Z<|z7 Z Z Z<|z8 Z Z c1<|aw Z Z Z<|aw Z c1 Z<|ab Z<|z6<|zg<|zn (x:=.bool _) Z ?_
    exact jb (by simp_all)
   ·refine z8 Z Z c2<|ae Y5 Za Z Z<|z8 Z Z c2<|zh (m8 _) Z<|z8 Z Z c1<|ax Z c2 Z<|z8 Z Z c1<|aj Z<|zq (s:=25) Z (fun c3=>?_) (fun c3=>?_)
    ·refine z7 Z Z c3<|z7 Z Z c3<|z7 Z Z c3<|z7 Z Z c3<|z7 Z Z c3<|z7 Z Z c3<|z8 Z Z c1<|aw Z c3 Z<|aw Z c1 Z<|ab Z<|z6<|zg<|zn (x:=.bool _) Z ?_
     exact jb (by simp_all)
    ·refine z8 Z Z c3<|aa Z<|z8 Z Z c3<|ae Y5 Za Z Z<|z8 Z Z c3<|ae Y5 Za Z Z<|z8 Z Z c3<|zh (uQ (2+op - 21) k hk hop2 ha hb) Z<|z8 Z Z c3<|za (Gv.field1 (v:=.bool _) Xc Z Ym Z Z)<|z8 Z Z c3<|aC Z<|z8 Z Z c1<|ax Z c3 Z<|aw Z c1 Z<|ab Z<|z6<|zg<|zn (x:=.bool _) Z ?_
     exact jb (by have h2:¬a.2<a.1:=(by simpa using c2);have h3:¬b.2<b.1:=(by simpa using c3);simp[h2,h3,hcp])
  ·exfalso;simp at c1;omega
theorem Dr {f:ac} {K:KS} (hv:f.vars.length≤1000) (h:KB f K) (a b c d:Int):mu (-(ft K.l (f.vars.length+1) a b).getD 0,(ft K.l (f.vars.length+1) c d).getD 0):=by
 have h1:=oG (iB hv h) (a:=a) (b:=b)
 have h2:=oG (iB hv h) (a:=c) (b:=d)
 unfold mu bB
 have hm:FP=-9223372036854775808:=rfl
 have hM:FQ=9223372036854775807:=rfl
 dsimp only
 omega
section
variable {f:ac} {K:KS} {t pr:AV} (hv:f.vars.length≤1000) (hK:KB f K)
include hv hK
theorem mR (x:aF) (hx:1<x.args.length) (h0:aU f (bj x)) (h1:aU f (b7 x)) (k:Nat) (hk:k≤2) (hop:x.op=2+(k:Int)∨x.op=21+(k:Int)) :
  aM prog E 115 [xE f K t pr,.agg (bH x)] (.bool (mM f K k (bj x) (b7 x))):=by
 have hl:=iB hv hK
 have hq:=fx (fZ (f:=f))
 have hs0:=pe (E:=E) (f0:=.fro 2 (f.vars.map gC)) (f1:=.fro 1 (f.params.map cX)) (f2:=.fro 7 (f.blocks.map dh)) (t:=t) (m:=.fro 2 ((cf f).map eP.row)) (pr:=pr) (ps:=.fro 2 (K.p.map b9)) hl (fx h0) hq
 have hs1:=pe (E:=E) (f0:=.fro 2 (f.vars.map gC)) (f1:=.fro 1 (f.params.map cX)) (f2:=.fro 7 (f.blocks.map dh)) (t:=t) (m:=.fro 2 ((cf f).map eP.row)) (pr:=pr) (ps:=.fro 2 (K.p.map b9)) hl (fx h1) hq
 have ha:=Dr hv hK (dW f) (bj x) (bj x) (dW f)
 have hb:=Dr hv hK (dW f) (b7 x) (b7 x) (dW f)
 have hfit:aM prog E 158 _ _:=hop.elim (fun e=>HB x.op k hk e ha hb) (fun e=>GL x.op k hk e ha hb)
 have fin:∀P Q R S:Option Int,fl f K (dW f) (bj x)=P→fl f K (bj x) (dW f)=Q→fl f K (dW f) (b7 x)=R→fl f K (b7 x) (dW f)=S →
   mM f K k (bj x) (b7 x)=((P.isSome&&Q.isSome)&&((R.isSome&&S.isSome)&&decide ((-P.getD 0,Q.getD 0).2<(-P.getD 0,Q.getD 0).1∨(-R.getD 0,S.getD 0).2<(-R.getD 0,S.getD 0).1∨kg k (-P.getD 0,Q.getD 0) (-R.getD 0,S.getD 0)))):=fun P Q R S e1 e2 e3 e4=>by
  unfold mM vD
  rw[e1,e2,e3,e4]
  cases P<;>cases Q<;>cases R<;>cases S<;>simp[Dg]
 have fin:=fin _ _ _ _ rfl rfl rfl rfl
 unfold fl at fin
 rw[fin]
 unfold xE wQ at *
 refine zp func115 Z (by decide) Z<|ai<|ya (cs:=_) Z Z Z<|ab Z<|z6<|ai<|za (fc Z)<|au j5 Z j7 Z Z<|aI jf Z<|za (bv 0 wy wz Z Z Z (cU (by omega)))<|aA j6 Z<|zh (hs0) Z<|za (ke Z)<|za (q9 (v:=.agg _) Z Z)<|za (jJ Z Z)<|y7 (cs:=[.int .i64 0,.int .i64 0]) X0 Z Z<|fun i5=>y1 Za Z Z Z Z Z Z .head Z<|ze (yd (t:=5) Z .head)<|ab Z<|z6<|ai<|za (fc Z)<|au j5 Z j7 Z Z<|aI jf Z<|za (bv 1 wy wz Z Z Z (du hx))<|aA j6 Z<|zh (hs1) Z<|za (ke Z)<|za (q9 (v:=.agg _) Z Z)<|za (jJ Z Z)<|y7 (cs:=[.int .i64 0,.int .i64 0]) X0 Z Z<|fun i7=>y1 Za Z Z Z Z Z Z .head Z<|ze (yd (t:=7) Z .head)<|ab Z<|z6<|ai<|aj Z<|aj Z<|zq (s:=28) Z (fun c1=>?_) (fun c1=>?_)
 ·refine z8 Z Z c1<|aj Z<|aw Z c1 Z<|aj Z<|zq (s:=31) Z (fun c2=>?_) (fun c2=>?_)
  ·refine z8 Z Z c2<|au j5 Z Z2 Z Z<|z8 Z Z c2<|aA Z4 Z<|z8 Z Z c2<|ae Y5 Za Z Z<|z8 Z Z c2<|ae Y5 Za Z Z<|z8 Z Z c2<|zh (hfit) Z<|aw Z c2 Z<|ab Z<|z6<|zg<|zn (x:=.bool _) Z ?_
   exact jb (by simp_all)
  ·refine z7 Z Z c2<|z7 Z Z c2<|z7 Z Z c2<|z7 Z Z c2<|z7 Z Z c2<|ax Z c2 Z<|ab Z<|z6<|zg<|zn (x:=.bool _) Z ?_
   exact jb (by simp_all)
 ·refine z7 Z Z c1<|ax Z c1 Z<|aj Z<|z7 Z Z Z<|z7 Z Z Z<|z7 Z Z Z<|z7 Z Z Z<|z7 Z Z Z<|ax Z Z Z<|ab Z<|z6<|zg<|zn (x:=.bool _) Z ?_
  exact jb (by simp_all)
theorem xF (op:Int) (l:List Int) (q:Int × List Int) (hq:q.2.length≤1000):aM prog E 154 ([.agg (b9 q)]++[.pf [.int .i64 op],.pf [.fro 1 (l.map cX)]]) (.bool (decide (q.1=op∧q.2=l))):=by
 refine zp func154 Z (by decide) Z<|ai<|ya (cs:=_) Z Z Z<|ab Z<|z6<|ai<|au underlying187 Z Z2 Z Z<|aA Z4 Z<|aA Z4 Z<|ak Z Z<|aj Z<|zq (s:=9) Z (fun c3=>?_) (fun c3=>?_)
 ·refine z8 Z Z c3<|au underlying187 Z j7 Z Z<|z8 Z Z c3<|aI jf Z<|z8 Z Z c3<|aI jf Z<|z8 Z Z c3<|zh (nL q.2 l (by unfold pn;omega)) Z<|aw Z c3 Z<|ab Z<|z6<|zg<|zn (x:=.bool _) Z ?_
  exact jb (by simp_all)
 ·refine z7 Z Z c3<|z7 Z Z c3<|z7 Z Z c3<|z7 Z Z c3<|ax Z c3 Z<|ab Z<|z6<|zg<|zn (x:=.bool _) Z ?_
  exact jb (by simp_all)
omit hv hK in
theorem oy {p:Int × List Int→Bool} {fn:FuncId} {c:List AV} (xs:List (Int × List Int)) (hl:xs.length≤281474976710656) (hp:∀x∈xs,aM prog E fn ([.agg (b9 x)]++c) (.bool (p x))) :
  aM prog E 186 [.fro 2 (xs.map b9),.fn fn [] c] (.int .i64 (cE p xs 0)):=by
 refine zp func186 Z (by decide) Z<|ai<|ao Z<|z6<|zd<|ai<|be Z<|aq Xk Z<|aa Z<|z6<|zm<|y8 (γ:=Nat) [0,1,7] (fun k=>[(8,.int .i64 k)]) (fun k=>[]) (fun k=>k≤xs.length∧(xs.take k).all (fun x=>!p x)) (fun k=>xs.length - k) 0 aK aH (⟨qw _,Z⟩) ?_
 rintro k ⟨hk,hall⟩
 refine ai<|ay Z Z<|z6<|zd<|zt Z (fun ck=>?_) (fun ck=>?_)
 ·have hk2:k<xs.length:=by simp at ck;omega
  refine zi<|zd<|zm<|ai<|aa Z<|ao Z<|z6<|ai<|za (yv (v:=.fn _ _ _) Z)<|be Z<|aa Z<|za (bv k Xk sizeOf187 Z Z Z (qt hk2))<|ae isAgg187 sizeOf187 Z Z<|az.callVP Z (hp _ (qx hk2)) Z<|z6<|zy Z (fun cp=>?_) (fun cp=>?_)
  ·refine ai<|aa Z<|ao Z<|z6<|zg<|zn (x:=.int _ _) Z ?_
   rw[bF p xs k hk hall,List.drop_eq_getElem_cons hk2,cE,if_pos cp]
  ·refine zi<|aW<|aE Z Z<|aa Z<|z6 ?_
   exact ⟨k+1,db,aK,aH,⟨hk2,by rw[qu hk2,List.all_append,hall];simp[cp]⟩,by omega⟩
 ·have hkn:k=xs.length:=by simp at ck;omega
  refine y6<|ai<|ao Z<|z6<|zg<|zn (x:=.int _ _) Z ?_
  rw[bF p xs k hk hall,hkn,List.drop_length,cE]
omit hv hK in
theorem mb {p:Int × List Int→Bool} {fn:FuncId} {c:List AV} (xs:List (Int × List Int)) (hl:xs.length≤281474976710656) (hp:∀x∈xs,aM prog E fn ([.agg (b9 x)]++c) (.bool (p x))) :
  aM prog E 153 [.fro 2 (xs.map b9),.fn fn [] c] (.bool (xs.any p)):=by
 refine zp func153 Z (by decide) Z<|ai<|ab Z<|z6<|ai<|be Z<|za (yv (v:=.fn _ _ _) Z)<|zh (oy xs hl hp) Z<|za (q5 Z Z)<|ab Z<|z6<|zg<|zn (x:=.bool _) Z ?_
 rw[eX]
theorem sK (hP:vG K.p) (op:Int) (l:List Int):aM prog E 112 [xE f K t pr,.int .i64 op,.fro 1 (l.map cX)] (.bool (qF K op l)):=by
 unfold xE wQ
 refine zp func112 Z (by decide) Z<|ai<|ya (cs:=[_]) Z Z Z<|ya (cs:=[_]) Z Z Z<|ab Z<|z6<|ai<|za (fc Z)<|za (yk Z)<|au j9 Z sizeOf72 Z Z<|aI isAgg72 Z<|za (Gv.func Z Z)<|zh (mb K.p (by have:=hP.1;omega) (fun q hq=>xF hv hK op l q (hP.2 q hq))) Z<|ab Z<|z6<|zg<|zn (x:=.bool _) Z ?_
 rfl
end
def IU (o:Option aF):List AV:=match o with|some x=>bH x|none=>[.int .i64 0,.int .i64 0,.raw (.slice none 0 0),.int .i64 0]
theorem nZ {f:ac} {K:KS} {t pr:AV} {v:Int} (h:bc f v=true):aM prog E 114 [xE f K t pr,.int .i64 v] (.tup [.agg (IU (dx f v)),.bool (dx f v).isSome]):=by
 obtain ⟨hv0,hvg⟩:=gd h
 unfold xE wQ
 refine zp func114 Z (by decide) Z<|ai<|y7 (cs:=[.int .i64 0,.int .i64 0,.raw (.slice none 0 0),.int .i64 0]) Zh Z Z<|fun i4=>ab Z<|z6<|ai<|za (fc Z)<|za (yk Z)<|au j9 Z Yu Z Z<|aI Xe Z<|aa Z<|za (bv v.toNat Zw Yt Z Z (by omega) hvg)<|ae isAgg77 Yt Z Z<|y7 (cs:=[.int .i64 0,.int .i64 0]) zeroValue77 Z Z<|fun i6=>y1 Yt Z Z Z Z Z Z .head Z<|ze (yd (t:=6) Z .head)<|z6<|zd<|zd<|ye (γ:=Bool) [0,4,6] (fun u=>[(21,.bool u)]) (fun u=>[(i4,.cells 54 [.int .i64 0,.int .i64 0,.raw (.slice none 0 0),.int .i64 0])]) (fun u=>u=decide (¬(0≤(aL f v).1∧0≤(aL f v).2))) ?_ (fun _ _ h=>h) ?_
 ·refine aW<|au Zp Z wz Z Z<|aA j6 Z<|ay Z Z<|aj Z<|zq (s:=17) Z (fun c4=>?_) (fun c4=>?_)
  ·refine z7 Z Z c4<|z7 Z Z c4<|z7 Z Z c4<|aw Z c4 Z<|z6 ?_
   exact ⟨_,db,aK,aH,by simp_all<;>omega⟩
  ·refine z8 Z Z c4<|au Zp Z wz Z Z<|z8 Z Z c4<|aA j6 Z<|z8 Z Z c4<|ay Z Z<|ax Z c4 Z<|z6 ?_
   exact ⟨_,db,aK,aH,by simp_all<;>omega⟩
 ·rintro u hu
  refine zy Z (fun cu=>?_) (fun cu=>?_)
  ·have hn:dx f v=none:=by unfold dx;rw[if_neg (wd (hu▸cu))]
   rw[hn]
   refine ai<|za (y3 (cps:=[]) (rs:=[.int .i64 0,.int .i64 0,.raw (.slice none 0 0),.int .i64 0]) E9 Z Z Z)<|y1 jy Z Z Z Z Z Z .head Z<|ab Z<|z6<|zg<|dX.c1t (y:=.bool _) Z Z ⟨_,.head⟩ Zz jy Z ?_
   rfl
  ·have hy:0≤(aL f v).1∧0≤(aL f v).2:=by rw[hu] at cu;simpa using cu
   obtain ⟨i,b,h1,h2,h3⟩:=gt hy.1
   obtain ⟨q,x,h4,h5,h6⟩:∃(q:Nat) (x:aF),b.insts[q]?=some x∧x.dst=v∧(aL f v).2=q:=by
    rcases h3 with ⟨_,_,_,h4⟩|h3
    ·omega
    ·exact h3
   have hm:dx f v=some x:=by unfold dx;rw[if_pos hy,h2,h6,Int.toNat_natCast,Int.toNat_natCast,h1];exact h4
   rw[hm]
   refine zi<|zd<|zr (fun j=>Nat.beq j 14) (by kernel_rfl) Z (zj (.rest _))<|ad 0 Z (fc Z)<|ad 1 Z (yk Z)<|ad 2 Z (bK j9 Z jj Z Z)<|ad 3 Z (bK jg Z Z8 Z Z)<|ad 4 Z (e9 Zg Z)<|ad 5 Z (bK Zp Z wz Z Z)<|ad 6 Z (cQ j6 Z)<|ad 7 Z (bv i ju jx Z Z h2 h1)<|ad 8 Z (bK ji Z Zt Z Z)<|ad 9 Z (e9 Y9 Z)<|ad 10 Z (bK Zp Z wz Z Z)<|ad 11 Z (cQ j6 Z)<|ad 12 Z (bv q Z0 jy Z Z h6 h4)<|ad 13 Z (yw Zz jy Z Z)<|yf<|yh (i:=14) Z (by kernel_rfl) (by kernel_rfl)<|y1 jy Z Z Z Z Z Z .head Z<|z6<|yh (i:=15) Z (by kernel_rfl) (by kernel_rfl)<|ab Z<|z6<|ym (by kernel_rfl)<|zg<|dX.c1t (y:=.bool _) Z Z ⟨_,.head⟩ Zz jy Z ?_
   rfl
end Go.Proofs.YtdilpodccjlkgaaGreatDoor
namespace Go.Proofs.YtdilpodccjlkgaaGreatDoor
open Go.Proofs.Tryz
open Go.Proofs Go.Lib Go.Shelf Go.RowKit
variable {E:World}
set_option maxRecDepth 20000
theorem vH {f:ac} {K:KS} {t pr:AV} {v:Int} (h:bc f v=true) (hm:dx f v=none):aM prog E 114 [xE f K t pr,.int .i64 v] (.tup [.agg [.int .i64 0,.int .i64 0,.raw (.slice none 0 0),.int .i64 0],.bool false]):=by
 have:=nZ (E:=E) (K:=K) (t:=t) (pr:=pr) h
 rw[hm] at this
 exact this
theorem vI {f:ac} {K:KS} {t pr:AV} {v:Int} (h:bc f v=true) {y:aF} (hm:dx f v=some y):aM prog E 114 [xE f K t pr,.int .i64 v] (.tup [.agg (bH y),.bool true]):=by
 have:=nZ (E:=E) (K:=K) (t:=t) (pr:=pr) h
 rw[hm] at this
 exact this
section
variable {f:ac} {K:KS} {t pr:AV} (hv:f.vars.length≤1000) (hK:KB f K)
include hv hK
theorem HQ {a b:Int} (ha:aU f a) (hb:aU f b) (c:Int):aM prog E 113 [yO (f.vars.length+1) K.l .any,.int .i64 a,.int .i64 b,.int .i64 c] (.bool (e8 f K a b c)):=rB _ K.l .any (iB hv hK) (fx ha) (fx hb) c
set_option maxHeartbeats 4000000 in
theorem tG (hP:vG K.p) (x:aF) (hF:bM f x) (hc:18≤x.op∧x.op≤24):aM prog E 71 [xE f K t pr,.agg (bH x)] (.bool (ox f K x)):=by
 have a0:aU f (bj x)∧0<x.args.length:=by
  have h:=hF.cnt (k:=x.op) rfl
  have h2:0<x.args.length:=by
   obtain ⟨k,hk,e⟩:∃k:Nat,k≤6∧x.op=18+(k:Int):=⟨(x.op - 18).toNat,by omega,by omega⟩
   rw[h,e]
   have:k=0∨k=1∨k=2∨k=3∨k=4∨k=5∨k=6:=by omega
   rcases this with rfl|rfl|rfl|rfl|rfl|rfl|rfl<;>decide
  exact ⟨cO (hF.a0 h2),h2⟩
 have hV0:bc f (bj x)=true:=by have:=hF.a0 a0.2;unfold bc;simpa using ⟨this.2,this.1⟩
 have a1:∀{k:Int},x.op=k→1<([0,1,2,2,2,2,2,2,2,2,1,2,1,2,3,1,0,1,2,1,1,2,2,2,1,2,2][k.toNat]?).getD 0→aU f (b7 x)∧1<x.args.length:=fun e h=>⟨cO (hF.a1 (by rw[hF.cnt e];exact h)),by rw[hF.cnt e];exact h⟩
 have nn:aU f (dW f):=fZ
 have hg0:=cU a0.2
 have hW:=sK (E:=E) (t:=t) (pr:=pr) hv hK hP x.op x.args
 have hM:=vH (E:=E) (K:=K) (t:=t) (pr:=pr) hV0
 have hM2:=fun y=>vI (E:=E) (K:=K) (t:=t) (pr:=pr) hV0 (y:=y)
 have hwi:=fun h1 h2 k=>mR (E:=E) (t:=t) (pr:=pr) hv hK x h1 a0.1 h2 k
 have flw:=fun a b c ha hb=>HQ (E:=E) hv hK (a:=a) (b:=b) ha hb c
 unfold xE wQ at *
 unfold yO at flw ⊢
 unfold yO at hW hM hM2 hwi
 refine zp func71 Z (by decide) Z<|ai<|ya (cs:=_) Z Z Z<|ab Z<|z6<|zd<|ai<|za (fc Z)<|au j5 Z Z2 Z Z<|aA Z4 Z<|au j5 Z j7 Z Z<|aI jf Z<|zh (hW) Z<|z6<|zy Z (fun cw=>?_) (fun cw=>?_)
 ·refine ai<|ab Z<|z6<|zg<|zn (x:=.bool _) Z ?_
  rw[ox,cw];rfl
 ·rw[ox,cw,Bool.false_or]
  refine zi<|ai<|au j5 Z j7 Z Z<|aI jf Z<|za (bv 0 wy wz Z Z Z hg0)<|aA j6 Z<|ao Z<|z6<|zd<|ai<|au j5 Z Z2 Z Z<|aA Z4 Z<|z6<|zm<|ai<|ak Z Z<|ab Z<|z6<|zt Z (fun c18=>?_) (fun c18=>?_)
  ·have c18:x.op=18:=c18
   have h1:=a1 c18 (by decide)
   rw[if_pos c18]
   refine zd<|zr (fun j=>false) (by kernel_rfl) Z (zj (.rest _))<|ad 0 Z (fc Z)<|ad 1 Z (yk Z)<|ad 2 Z (bK j9 Z Z7 Z Z)<|ad 3 Z (yx (c:=.pf _) Zf Z)<|ad 4 Z (fc Z)<|ad 5 Z (yk Z)<|ad 6 Z (bK j9 Z wz Z Z)<|ad 7 Z (cQ j6 Z)<|ad 8 Z (bK j5 Z j7 Z Z)<|ad 9 Z (e9 jf Z)<|ad 10 Z (bv 1 wy wz Z Z Z (du h1.2))<|ad 11 Z (cQ j6 Z)<|aQ 12 Z<|zh (flw _ _ 0 nn h1.1) Z<|z6<|ad 13 Z (m5 Z)<|qj (s:=35) Z (fun c1=>?_) (fun c1=>?_)
   ·refine cG 14 Z Z Z c1 (fc Z)<|cG 15 Z Z Z c1 (yk Z)<|cG 16 Z Z Z c1 (bK j9 Z Z7 Z Z)<|cG 17 Z Z Z c1 (yx (c:=.pf _) Zf Z)<|cG 18 Z Z Z c1 (bK j5 Z j7 Z Z)<|cG 19 Z Z Z c1 (e9 jf Z)<|cG 20 Z Z Z c1 (bv 1 wy wz Z Z Z (du h1.2))<|cG 21 Z Z Z c1 (cQ j6 Z)<|cG 22 Z Z Z c1 (cD Z)<|aQ 23 Z<|z8 Z Z c1<|zh (flw _ _ (-1) h1.1 a0.1) Z<|z6<|ad 24 Z (sX Z c1 Z)<|ad 25 Z (ms Z)<|bI<|zg<|zn (x:=.bool _) Z ?_
    exact jb (by simp_all)
   ·refine bX 14 Z Z Z c1<|bX 15 Z Z Z c1<|bX 16 Z Z Z c1<|bX 17 Z Z Z c1<|bX 18 Z Z Z c1<|bX 19 Z Z Z c1<|bX 20 Z Z Z c1<|bX 21 Z Z Z c1<|bX 22 Z Z Z c1<|bX 23 Z Z Z c1<|ad 24 Z (rz Z c1 Z)<|ad 25 Z (ms Z)<|bI<|zg<|zn (x:=.bool _) Z ?_
    exact jb (by simp_all)
  ·rw[if_neg (show ¬x.op=18 from c18)]
   refine ai<|ak Z Z<|ab Z<|z6<|zt Z (fun c19=>?_) (fun c19=>?_)
   ·rw[if_pos (show x.op=19 from c19)]
    unfold HO
    rcases hm:dx f (bj x) with _|y
    ·refine ai<|za (fc Z)<|aa Z<|zh (hM hm) Z<|za (ke Z)<|za (q9 (v:=.agg _) Z Z)<|za (jJ Z Z)<|y7 (cs:=[.int .i64 0,.int .i64 0,.raw (.slice none 0 0),.int .i64 0]) Zh Z Z<|fun i6=>y1 jy Z Z Z Z Z Z .head Z<|ze (yd (t:=6) Z .head)<|ab Z<|z6<|zd<|zr (fun j=>false) (by kernel_rfl) Z (zj (.rest _))<|ad 0 Z (m5 Z)<|ad 1 Z (m5 Z)<|bX 2 Z Z Z Z<|bX 3 Z Z Z Z<|bX 4 Z Z Z Z<|ad 5 Z (rz Z Z Z)<|ad 6 Z (m5 Z)<|cG 7 Z Z Z Z (fc Z)<|cG 8 Z Z Z Z (yk Z)<|cG 9 Z Z Z Z (bK j9 Z Z7 Z Z)<|cG 10 Z Z Z Z (yx (c:=.pf _) Zf Z)<|cG 11 Z Z Z Z (fc Z)<|cG 12 Z Z Z Z (yk Z)<|cG 13 Z Z Z Z (bK j9 Z wz Z Z)<|cG 14 Z Z Z Z (cQ j6 Z)<|cG 15 Z Z Z Z (cD Z)<|aQ 16 Z<|z8 Z Z Z<|zh (flw _ _ (-1) nn a0.1) Z<|z6<|ad 17 Z (rz Z Z Z)<|ad 18 Z (ms Z)<|bI<|zg<|zn (x:=.bool _) Z ?_
     exact jb (by simp_all)
    ·refine ai<|za (fc Z)<|aa Z<|zh (hM2 y hm) Z<|za (ke Z)<|za (q9 (v:=.agg _) Z Z)<|za (jJ Z Z)<|y7 (cs:=[.int .i64 0,.int .i64 0,.raw (.slice none 0 0),.int .i64 0]) Zh Z Z<|fun i6=>y1 jy Z Z Z Z Z Z .head Z<|ze (yd (t:=6) Z .head)<|ab Z<|z6<|zd<|zr (fun j=>false) (by kernel_rfl) Z (zj (.rest _))<|ad 0 Z (m5 Z)<|ad 1 Z (m5 Z)<|cG 2 Z Z Z Z (bK j5 Z Z2 Z Z)<|cG 3 Z Z Z Z (cQ Z4 Z)<|cG 4 Z Z Z Z (Gv.eqlI Z Z)<|ad 5 Z (sX Z Z Z)<|ad 6 Z (m5 Z)<|qj (s:=61) Z (fun c2=>?_) (fun c2=>?_)
     ·refine bX 7 Z Z Z c2<|bX 8 Z Z Z c2<|bX 9 Z Z Z c2<|bX 10 Z Z Z c2<|bX 11 Z Z Z c2<|bX 12 Z Z Z c2<|bX 13 Z Z Z c2<|bX 14 Z Z Z c2<|bX 15 Z Z Z c2<|bX 16 Z Z Z c2<|ad 17 Z (sX Z c2 Z)<|ad 18 Z (ms Z)<|bI<|zg<|zn (x:=.bool _) Z ?_
      exact jb (by simp_all)
     ·refine cG 7 Z Z Z c2 (fc Z)<|cG 8 Z Z Z c2 (yk Z)<|cG 9 Z Z Z c2 (bK j9 Z Z7 Z Z)<|cG 10 Z Z Z c2 (yx (c:=.pf _) Zf Z)<|cG 11 Z Z Z c2 (fc Z)<|cG 12 Z Z Z c2 (yk Z)<|cG 13 Z Z Z c2 (bK j9 Z wz Z Z)<|cG 14 Z Z Z c2 (cQ j6 Z)<|cG 15 Z Z Z c2 (cD Z)<|aQ 16 Z<|z8 Z Z c2<|zh (flw _ _ (-1) nn a0.1) Z<|z6<|ad 17 Z (rz Z c2 Z)<|ad 18 Z (ms Z)<|bI<|zg<|zn (x:=.bool _) Z ?_
      exact jb (by simp_all)
   ·rw[if_neg (show ¬x.op=19 from c19)]
    refine ai<|ak Z Z<|ab Z<|z6<|zt Z (fun c20=>?_) (fun c20=>?_)
    ·rw[if_pos (show x.op=20 from c20)]
     refine zd<|zr (fun j=>false) (by kernel_rfl) Z (zj (.rest _))<|ad 0 Z (fc Z)<|ad 1 Z (yk Z)<|ad 2 Z (bK j9 Z Z7 Z Z)<|ad 3 Z (yx (c:=.pf _) Zf Z)<|ad 4 Z (fc Z)<|ad 5 Z (yk Z)<|ad 6 Z (bK j9 Z wz Z Z)<|ad 7 Z (cQ j6 Z)<|ad 8 Z (cD Z)<|aQ 9 Z<|zh (flw _ _ (-1) nn a0.1) Z<|z6<|ad 10 Z (m5 Z)<|qj (s:=85) Z (fun c3=>?_) (fun c3=>?_)
     ·refine bX 11 Z Z Z c3<|bX 12 Z Z Z c3<|bX 13 Z Z Z c3<|bX 14 Z Z Z c3<|bX 15 Z Z Z c3<|bX 16 Z Z Z c3<|bX 17 Z Z Z c3<|bX 18 Z Z Z c3<|bX 19 Z Z Z c3<|bX 20 Z Z Z c3<|ad 21 Z (sX Z c3 Z)<|ad 22 Z (ms Z)<|bI<|zg<|zn (x:=.bool _) Z ?_
      exact jb (by simp_all)
     ·refine cG 11 Z Z Z c3 (fc Z)<|cG 12 Z Z Z c3 (yk Z)<|cG 13 Z Z Z c3 (bK j9 Z Z7 Z Z)<|cG 14 Z Z Z c3 (yx (c:=.pf _) Zf Z)<|cG 15 Z Z Z c3 (cD Z)<|cG 16 Z Z Z c3 (fc Z)<|cG 17 Z Z Z c3 (yk Z)<|cG 18 Z Z Z c3 (bK j9 Z wz Z Z)<|cG 19 Z Z Z c3 (cQ j6 Z)<|aQ 20 Z<|z8 Z Z c3<|zh (flw _ _ (-1) a0.1 nn) Z<|z6<|ad 21 Z (rz Z c3 Z)<|ad 22 Z (ms Z)<|bI<|zg<|zn (x:=.bool _) Z ?_
      exact jb (by simp_all)
    ·rw[if_neg (show ¬x.op=20 from c20)]
     refine ai<|ak Z Z<|ab Z<|z6<|zt Z (fun c24=>?_) (fun c24=>?_)
     ·rw[if_pos (show x.op=24 from c24)]
      refine zd<|zr (fun j=>false) (by kernel_rfl) Z (zj (.rest _))<|ad 0 Z (fc Z)<|ad 1 Z (yk Z)<|ad 2 Z (bK j9 Z Z7 Z Z)<|ad 3 Z (yx (c:=.pf _) Zf Z)<|ad 4 Z (fc Z)<|ad 5 Z (yk Z)<|ad 6 Z (bK j9 Z wz Z Z)<|ad 7 Z (cQ j6 Z)<|ad 8 Z (cD Z)<|aQ 9 Z<|zh (flw _ _ 0 nn a0.1) Z<|z6<|ad 10 Z (m5 Z)<|qj (s:=109) Z (fun c4=>?_) (fun c4=>?_)
      ·refine cG 11 Z Z Z c4 (fc Z)<|cG 12 Z Z Z c4 (yk Z)<|cG 13 Z Z Z c4 (bK j9 Z Z7 Z Z)<|cG 14 Z Z Z c4 (yx (c:=.pf _) Zf Z)<|cG 15 Z Z Z c4 (cD Z)<|cG 16 Z Z Z c4 (fc Z)<|cG 17 Z Z Z c4 (yk Z)<|cG 18 Z Z Z c4 (bK j9 Z wz Z Z)<|cG 19 Z Z Z c4 (cQ j6 Z)<|aQ 20 Z<|z8 Z Z c4<|zh (flw _ _ 64 a0.1 nn) Z<|z6<|ad 21 Z (sX Z c4 Z)<|ad 22 Z (ms Z)<|bI<|zg<|zn (x:=.bool _) Z ?_
       exact jb (by simp_all)
      ·refine bX 11 Z Z Z c4<|bX 12 Z Z Z c4<|bX 13 Z Z Z c4<|bX 14 Z Z Z c4<|bX 15 Z Z Z c4<|bX 16 Z Z Z c4<|bX 17 Z Z Z c4<|bX 18 Z Z Z c4<|bX 19 Z Z Z c4<|bX 20 Z Z Z c4<|ad 21 Z (rz Z c4 Z)<|ad 22 Z (ms Z)<|bI<|zg<|zn (x:=.bool _) Z ?_
       exact jb (by simp_all)
     ·rw[if_neg (show ¬x.op=24 from c24)]
      obtain ⟨k,hk,e⟩:∃k:Nat,k≤2∧x.op=21+(k:Int):=⟨(x.op - 21).toNat,by omega,by omega⟩
      have h1:aU f (b7 x)∧1<x.args.length:=by
       have:k=0∨k=1∨k=2:=by omega
       rcases this with rfl|rfl|rfl
       ·exact a1 e (by decide)
       ·exact a1 e (by decide)
       ·exact a1 e (by decide)
      rw[show (x.op - 21).toNat=k by omega]
      refine zi<|ai<|za (fc Z)<|ae Zz jy Z Z<|zh (hwi h1.2 h1.1 k hk (.inr e)) Z<|ab Z<|z6<|zg<|zn (x:=.bool _) Z ?_
      rfl
end
end Go.Proofs.YtdilpodccjlkgaaGreatDoor
namespace Go.Proofs.YtdilpodccjlkgaaGreatDoor
open Go.Proofs.Tryz
open Go.Proofs Go.Lib Go.Shelf Go.RowKit
theorem HR:dB prog 180 #[(0,1),(1,1),(2,1)] [.int .i64 0,.int .i64 0,.int .i64 0]:=⟨_,_,Xb,zeroValue180,fun w=>by kernel_rfl,rfl⟩
theorem Fa:da prog 134 180 1 3 [.int .i64 0,.int .i64 0,.int .i64 0]:=⟨_,X4,sizeOf180,zeroValue180,by decide,by decide,by kernel_rfl⟩
theorem HS:dB prog 136 #[(0,1),(1,1),(2,1)] [.int .i64 0,.raw (.slice none 0 0),.raw (.slice none 0 0)]:=⟨_,_,Zn,zeroValue136,fun w=>by kernel_rfl,rfl⟩
variable {E:World}
set_option maxRecDepth 20000
def mc (l:List fI) (a b c:Int):List fI:=if -bL≤c∧c≤bL∧l.length<8192 then l++[⟨a,b,c⟩] else l
def rp (js jl jm n:Nat) (l:List fI) (M:List Int):OL:=[(js,.cells 136 [.int .i64 n,.own jl l.length,.own jm M.length]),(jl,.grow 3 180 (l.map b8).flatten),(jm,.grow 1 3 (cI M))]
theorem zU (r:List fI):(r.map b8).flatten.length=r.length*3:=by
 induction r with
 |nil=>rfl
 |cons o r ih=>rw[List.map_cons,List.flatten_cons,qz,ih,List.length_cons];show 3+_=_;omega
theorem tH {c:Int} {l:List fI} {u:Bool} (h:u=(decide (c < -1152921504606846976)||(decide (1152921504606846976<c)||decide (8192≤(l.length:Int))))):u=!decide (-bL≤c∧c≤bL∧l.length<8192):=by
 rw[h,w3]
 unfold bL
 simp
 omega
theorem nv (js jl jm n:Nat) (l:List fI) (M:List Int) {a b:Int} (ha:oD n a) (hb:oD n b) (c:Int) (hll:l.length≤8192) :
  aY prog E 66 [.po js 0,.int .i64 a,.int .i64 b,.int .i64 c] (rp js jl jm n l M) (fun y O=>∃g:Nat × Bool,y=.bool g.2∧O=rp js g.1 jm n (mc l a b c) M∧True):=by
 refine qa (γ:=Nat × Bool) (x:=fun g=>.bool g.2) (M:=fun g=>rp js g.1 jm n (mc l a b c) M) (p:=fun _=>True) ?_
 have ha2:=ha
 have hb2:=hb
 unfold oD at ha2 hb2
 have hsa:=fun z y=>lg (E:=E) n z y a
 rw[w8 (show 0≤a∧a<n from ha2)] at hsa
 have hsb:=fun z y=>lg (E:=E) n z y b
 rw[w8 (show 0≤b∧b<n from hb2)] at hsb
 have hla:=fun z y=>aY.lendP (E:=E) (i:=js) (T:=136) (fun _ _ _ h=>iO h) (hsa z y)
 have hlb:=fun z y=>aY.lendP (E:=E) (i:=js) (T:=136) (fun _ _ _ h=>iO h) (hsb z y)
 unfold rp
 refine zp func66 Z (by decide) Z<|ai<|ab Z<|z6<|zd<|zd<|ye (γ:=Bool) [0,1,2,3] (fun u=>[(34,.bool u)]) (fun u=>[(js,.cells 136 [.int .i64 n,.own jl l.length,.own jm M.length]),(jl,.grow 3 180 (l.map b8).flatten),(jm,.grow 1 3 (cI M))]) (fun u=>u=!decide (-bL≤c∧c≤bL∧l.length<8192)) ?_ (fun _ _ h=>h) ?_
 ·refine aW<|aJ Z<|aa Z<|zu Z (zj (.l (.r (.r (.rest _))))) (hla (.own jl l.length) (.own jm M.length)) ?_
  rintro r11 O11 ⟨rfl,rfl⟩
  refine aC Z<|aj Z<|z8 Z Z Z<|aJ Z<|z8 Z Z Z<|aa Z<|z8 Z Z Z<|zu Z (zj (.l (.r (.r (.rest _))))) (hlb (.own jl l.length) (.own jm M.length)) ?_
  rintro r16 O16 ⟨rfl,rfl⟩
  refine z8 Z Z Z<|aC Z<|ax Z Z Z<|aj Z<|zq (s:=19) Z (fun c1=>?_) (fun c1=>?_)
  ·refine z7 Z Z c1<|z7 Z Z c1<|aw Z c1 Z<|aj Z<|z7 Z Z Z<|z7 Z Z Z<|aw Z Z Z<|aj Z<|z7 Z Z Z<|z7 Z Z Z<|z7 Z Z Z<|z7 Z Z Z<|z7 Z Z Z<|z7 Z Z Z<|aw Z Z Z<|z6 ?_
   exact ⟨_,gH,aK,aH,tH (by rw[w3];simp_all<;>omega)⟩
  ·refine z8 Z Z c1<|aa Z<|z8 Z Z c1<|ay Z Z<|ax Z c1 Z<|aj Z<|zq (s:=23) Z (fun c2=>?_) (fun c2=>?_)
   ·refine z7 Z Z c2<|z7 Z Z c2<|aw Z c2 Z<|aj Z<|z7 Z Z Z<|z7 Z Z Z<|z7 Z Z Z<|z7 Z Z Z<|z7 Z Z Z<|z7 Z Z Z<|aw Z Z Z<|z6 ?_
    exact ⟨_,gH,aK,aH,tH (by rw[w3];simp_all<;>omega)⟩
   ·refine z8 Z Z c2<|aa Z<|z8 Z Z c2<|aZ Z Z<|ax Z c2 Z<|aj Z<|zq (s:=27) Z (fun c3=>?_) (fun c3=>?_)
    ·refine z7 Z Z c3<|z7 Z Z c3<|z7 Z Z c3<|z7 Z Z c3<|z7 Z Z c3<|z7 Z Z c3<|aw Z c3 Z<|z6 ?_
     exact ⟨_,gH,aK,aH,tH (by rw[w3];simp_all<;>omega)⟩
    ·refine z8 Z Z c3<|aJ Z<|z8 Z Z c3<|ap Z<|z8 Z Z c3<|za (zf Zn Z Xg (by decide) Z Z)<|z8 Z Z c3<|za (zo (c:=.own _ _) isAgg134 Z ⟨_,.head⟩ Z)<|z8 Z Z c3<|za (qo X4 Z)<|z8 Z Z c3<|za (q5 Z Z)<|ax Z c3 Z<|z6 ?_
     exact ⟨_,gH,aK,aH,tH (by rw[w3];simp_all<;>omega)⟩
 ·rintro u hu
  refine zy Z (fun cu=>?_) (fun cu=>?_)
  ·have hn:¬(-bL≤c∧c≤bL∧l.length<8192):=fun hq=>by rw[hu,w8 hq] at cu;cases cu
   have hL:mc l a b c=l:=by unfold mc;rw[if_neg hn]
   refine ai<|ab Z<|z6<|zg<|zn (x:=.bool _) Z ?_
   exact ⟨(jl,false),rfl,⟨_,.refl _,by rw[hL]⟩,trivial⟩
  ·have hy:-bL≤c∧c≤bL∧l.length<8192:=Classical.byContradiction fun hq=>by rw[hu,w9 hq] at cu;simp at cu
   have hL:mc l a b c=l++[⟨a,b,c⟩]:=by unfold mc;rw[if_pos hy]
   refine zi<|ai<|aJ Z<|aJ Z<|ap Z<|za (zf Zn Z Xg (by decide) Z Z)<|za (zo (c:=.own _ _) isAgg134 Z ⟨_,.head⟩ Z)<|aa Z<|aa Z<|aa Z<|za (y3 (cps:=[(0,[_]),(1,[_]),(2,[_])]) (rs:=[_,_,_]) HR Z Z Z)<|y4 (rows:=[[_,_,_]]) Fa Z Z Z Z Z<|yu (k:=3) X4 type180 Z Z Z Z Z (fun _=>.t1) (zU l) (by decide) Z (by show (_+_)*24≤_;simp<;>omega) (by simp<;>omega)<|fun i45=>ap Z<|za (zf Zn Z Xg (by decide) Z Z)<|yq (l:=[_]) (new:=[_,_,_]) Xg Z Z Z Z Z Z .head Z Z<|z6<|ai<|ab Z<|z6<|zg<|zn (x:=.bool _) Z ?_
   exact ⟨(i45,true),rfl,⟨_,.refl _,by rw[hL,w5,List.flatten_append,qz];rfl⟩,trivial⟩
theorem xG (js jl jm n:Nat) (l:List fI) (M:List Int) (hll:l.length≤10000) (hm:M.length≤1000) :
  aY prog E 68 [.po js 0] (rp js jl jm n l M) (fun y O=>∃g:Nat,y=.tup []∧O=rp js jl g n l (M++[(l.length:Int)])∧True):=by
 refine qa (γ:=Nat) (x:=fun g=>.tup []) (M:=fun g=>rp js jl g n l (M++[(l.length:Int)])) (p:=fun _=>True) ?_
 unfold rp
 refine zp func68 Z (by decide) Z<|ai<|aJ Z<|za (Gv.neqPo underlying71 type136 Z)<|z6<|yt Z Z<|zr (fun j=>Nat.beq j 14) (by kernel_rfl) Z (zj (.r (.rest _)))<|ad 0 Z (cJ Z)<|ad 1 Z (cJ Z)<|ad 2 Z (zw Z)<|ad 3 Z (zf Zn Z j7 (by decide) Z Z)<|ad 4 Z (zo (c:=.own _ _) jf Z ⟨_,.head⟩ Z)<|ad 5 Z (cJ Z)<|ad 6 Z (zw Z)<|ad 7 Z (zf Zn Z Xg (by decide) Z Z)<|ad 8 Z (zo (c:=.own _ _) isAgg134 Z ⟨_,.head⟩ Z)<|ad 9 Z (qo X4 Z)<|aQ 10 Z<|y4 (rows:=[[_]]) cS Z Z Z Z Z<|z6<|aQ 11 Z<|yu (k:=1) wy Y1 Z Z Z Z Z (fun _=>.t1) (by simp[cI]) (by decide) Z (by show (_+_)*8≤_;simp<;>omega) (by simp<;>omega)<|fun i15=>z6<|yp (i:=12) Z (by kernel_rfl) (by kernel_rfl) (by kernel_rfl) (by kernel_rfl) (zw Z)<|ad 13 Z (zf Zn Z j7 (by decide) Z Z)<|yf<|yh (i:=14) Z (by kernel_rfl) (by kernel_rfl)<|yq (l:=[_]) (new:=[_,_,_]) j7 Z Z Z Z Z Z .head Z Z<|z6<|ym (by kernel_rfl)<|yl ?_
 exact ⟨i15,rfl,⟨_,.refl _,by rw[qz,←oZ];rfl⟩,trivial⟩
theorem vJ (js jl jm n:Nat) (l:List fI) (M:List Int) :
  aY prog E 121 [.po js 0] (rp js jl jm n l M) (fun y O=>y=.int .i64 M.length∧O=rp js jl jm n l M):=by
 unfold rp
 refine zp func121 Z (by decide) Z<|ai<|ao Z<|z6<|zd<|ai<|aJ Z<|za (Gv.eqlPo underlying71 type136 Z)<|z6<|yg Z Z<|zi<|ai<|aJ Z<|ap Z<|za (zf Zn Z j7 (by decide) Z Z)<|za (zo (c:=.own _ _) jf Z ⟨_,.head⟩ Z)<|za (qo wy Z)<|ao Z<|z6<|zg<|zn (x:=.int _ _) Z ?_
 exact ⟨rfl,rfl⟩
theorem Fb (l:List fI) (m:Nat):(l.map b8).flatten.take (m*3)=((l.take m).map b8).flatten:=by
 induction l generalizing m with
 |nil=>simp
 |cons q l ih=>
  cases m with
  |zero=>simp
  |succ m=>
   rw[List.map_cons,List.flatten_cons,List.take_succ_cons,List.map_cons,List.flatten_cons,←ih m,List.take_append]
   have e:(b8 q).length=3:=rfl
   rw[List.take_of_length_le (by rw[e];omega),e,show (m+1)*3 - 3=m*3 by omega]
theorem Fc (M:List Int) (x:Int):(cI (M++[x])).take (M.length*1)=cI M:=by
 rw[←oZ,Nat.mul_one,List.take_append_of_le_length (by rw[aD];omega),List.take_of_length_le (by rw[aD];omega)]
theorem Ds {α:Type} (M:List α) (x:α):(M++[x])[M.length]?=some x:=by simp
theorem BA (js jl jm n:Nat) (l:List fI) (M:List Int) (m:Nat) (hm:m≤l.length) (hM:M.length≤1000) :
  aY prog E 75 [.po js 0] (rp js jl jm n l (M++[(m:Int)])) (fun y O=>y=.bool true∧O=rp js jl jm n (l.take m) M):=by
 have hd:=vJ (E:=E) js jl jm n l (M++[(m:Int)])
 have hl1:(M++[(m:Int)]).length=M.length+1:=by simp
 unfold rp at hd ⊢
 refine zp func75 Z (by decide) Z<|ai<|ab Z<|z6<|zd<|ai<|aJ Z<|zu Z (zj (.l (.l (.l (.rest _))))) (hd) ?_
 rintro r5 O5 ⟨rfl,rfl⟩
 refine ak Z Z<|z6<|yg Z (by rw[w9 (by simp;omega)])<|zi<|ai<|aJ Z<|ap Z<|za (zf Zn Z j7 (by decide) Z Z)<|za (zo (c:=.own _ _) jf Z ⟨_,.head⟩ Z)<|za (qo wy Z)<|za (Gv.sub Z Z (by unfold lE;omega))<|ao Z<|z6<|zd<|zr (fun j=>Nat.beq j 15) (by kernel_rfl) Z (zj (.r (.rest _)))<|ad 0 Z (cJ Z)<|ad 1 Z (cJ Z)<|ad 2 Z (zw Z)<|ad 3 Z (zf Zn Z Xg (by decide) Z Z)<|ad 4 Z (zo (c:=.own _ _) isAgg134 Z ⟨_,.head⟩ Z)<|ad 5 Z (cJ Z)<|ad 6 Z (zw Z)<|ad 7 Z (zf Zn Z j7 (by decide) Z Z)<|ad 8 Z (zo (c:=.own _ _) jf Z ⟨_,.head⟩ Z)<|ad 9 Z (cD Z)<|aQ 10 Z<|za (yi (j:=M.length) wy wz Z Z (by simp) ⟨_,.t1⟩ (by simp[cI]) (by simp))<|z6<|aQ 11 Z<|za (yz (j:=M.length) j6 Z ⟨_,.t1⟩ (Ds M (m:Int)))<|z6<|aQ 12 Z<|az.cutTo (j:=m) X4 sizeOf180 Z Z Z .head (by decide) (by rw[zU];omega)<|z6<|yp (i:=13) Z (by kernel_rfl) (by kernel_rfl) (by kernel_rfl) (by kernel_rfl) (zw Z)<|ad 14 Z (zf Zn Z Xg (by decide) Z Z)<|yf<|yh (i:=15) Z (by kernel_rfl) (by kernel_rfl)<|yq (l:=[_]) (new:=[_,_,_]) Xg Z Z Z Z Z Z .head Z Z<|z6<|ym (by kernel_rfl) ?_
 refine ai<|aJ Z<|aJ Z<|ap Z<|za (zf Zn Z j7 (by decide) Z Z)<|za (zo (c:=.own _ _) jf Z ⟨_,.head⟩ Z)<|aa Z<|az.cutTo (j:=M.length) wy wz Z Z (by simp) .t2 (by decide) (by simp[cI])<|ap Z<|za (zf Zn Z j7 (by decide) Z Z)<|yq (l:=[_]) (new:=[_,_,_]) j7 Z Z Z Z Z Z .head Z Z<|z6<|ai<|ab Z<|z6<|zg<|zn (x:=.bool _) Z ?_
 exact ⟨rfl,by rw[Fb,Fc,w7,Nat.min_eq_left hm];rfl⟩
theorem BB (n:Nat) (hn:n≤1024):aY prog E 36 [.int .i64 n] [] (fun y O=>∃g:Nat × Nat × Nat,y=.po g.1 0∧O=rp g.1 g.2.1 g.2.2 n [] []∧True):=by
 refine qa (γ:=Nat × Nat × Nat) (x:=fun g=>.po g.1 0) (M:=fun g=>rp g.1 g.2.1 g.2.2 n [] []) (p:=fun _=>True) ?_
 unfold rp
 refine zp func36 Z (by decide) Z<|ai<|za (jI Z)<|z6<|zd<|zd<|ye (γ:=Bool) [0] (fun u=>[(8,.bool u)]) (fun u=>[]) (fun u=>u=false) ?_ (fun _ _ h=>h) ?_
 ·refine aW<|aa Z<|ay Z Z<|aj Z<|zq (s:=5) Z (fun c4=>?_) (fun c4=>?_)
  ·refine z7 Z Z c4<|z7 Z Z c4<|aw Z c4 Z<|z6 ?_
   exact ⟨_,aK,aK,aH,by simp_all<;>omega⟩
  ·refine z8 Z Z c4<|aa Z<|z8 Z Z c4<|aZ Z Z<|ax Z c4 Z<|z6 ?_
   exact ⟨_,aK,aK,aH,by simp_all<;>omega⟩
 ·rintro u hu
  subst hu
  refine yg Z Z<|zi<|ai<|aa Z<|za (y3 (cps:=[(0,[_])]) (rs:=[_,.raw (.slice none 0 0),.raw (.slice none 0 0)]) HS Z Z Z)<|yo (cs:=_) Z Z Z Z<|fun i11=>za (fU Z)<|z6<|gP (off:=1) (k:=3) (T:=180) (fun _=>.head) Z<|fun jl=>gP (off:=2) (k:=1) (T:=3) (fun _=>.t1) Z<|fun jm=>zz (zb (zc .head))<|zz (zb (zc .t1))<|zz (zb (zc .t2))<|zg<|zn (x:=.po _ _) Z ?_
  exact ⟨(i11,jl,jm),rfl,⟨_,.refl _,rfl⟩,trivial⟩
end Go.Proofs.YtdilpodccjlkgaaGreatDoor
namespace Go.Proofs.YtdilpodccjlkgaaGreatDoor
open Go.Proofs.Tryz
open Go.Proofs Go.Lib Go.Shelf Go.RowKit
variable {E:World}
set_option maxRecDepth 20000
def Fd (f0 f1 f2 t m pr:AV) (js:Nat) (q:Int) (a8 a9 a10:AV):List AV:=[f0,f1,f2,t,m,pr,.po js 0,.int .i64 q,a8,a9,a10]
def Fe (iw js jl jm n:Nat) (cs:List AV) (l:List fI) (M:List Int):OL:=(iw,.cells 75 cs)::rp js jl jm n l M
theorem Dt {l:List fI} {a b c:Int} (h:l.length≤8192):(mc l a b c).length≤8192:=by
 unfold mc
 split
 ·rw[qz];simp;omega
 ·exact h
theorem xH (f0 f1 f2 t m pr a8 a9 a10:AV) (iw js jl jm n:Nat) (q:Int) (l:List fI) (M:List Int) (hll:l.length≤8192) {a b:Int} (ha:oD n a) (hb:oD n b) :
  aY prog E 67 [.po iw 0,.int .i64 a,.int .i64 b] (Fe iw js jl jm n (Fd f0 f1 f2 t m pr js q a8 a9 a10) l M) (fun y O=>∃g:Nat,y=.tup []∧O=Fe iw js g jm n (Fd f0 f1 f2 t m pr js q a8 a9 a10) (mc (mc l a b 0) b a 0) M∧True):=by
 refine qa (γ:=Nat) (x:=fun g=>.tup []) (M:=fun g=>Fe iw js g jm n (Fd f0 f1 f2 t m pr js q a8 a9 a10) (mc (mc l a b 0) b a 0) M) (p:=fun _=>True) ?_
 have h1:=nv (E:=E) js jl jm n l M ha hb 0 hll
 have h2:=fun jl=>nv (E:=E) js jl jm n (mc l a b 0) M hb ha 0 (Dt hll)
 unfold Fe Fd
 unfold rp at h1 h2 ⊢
 refine zp func67 Z (by decide) Z<|ai<|aJ Z<|ap Z<|za (zf j9 Z Z7 (by decide) Z Z)<|za (zo (c:=.po _ _) Zf Z ⟨_,.head⟩ Z)<|aa Z<|aa Z<|zu Z (zj (.r (.l (.l (.l (.rest _)))))) (h1) ?_
 rintro r12 O12 ⟨⟨j1,u1⟩,rfl,rfl,_⟩
 refine z6<|aW<|aJ Z<|ap Z<|za (zf j9 Z Z7 (by decide) Z Z)<|za (zo (c:=.po _ _) Zf Z ⟨_,.t3⟩ Z)<|aa Z<|aa Z<|zu Z (zj (.l (.l (.l (.r (.rest _)))))) (h2 j1) ?_
 rintro r19 O19 ⟨⟨j2,u2⟩,rfl,rfl,_⟩
 refine z6<|y9 (zb (zc .t2))<|y9 (zb (zc .t2))<|y9 (zb (zc .t2))<|y9 (zb (zc .t3))<|yl ?_
 exact ⟨j2,rfl,⟨_,.refl _,rfl⟩,trivial⟩
end Go.Proofs.YtdilpodccjlkgaaGreatDoor
