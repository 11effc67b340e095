/- The walk's facts, written: two nodes have one number. Of facts of nodes that there are. -/
import Derived.Test.YtdilpodccjlkgaaGreatDoorJn
import Derived.Test.YtdilpodccjlkgaaGreatDoorJd
import Derived.Test.YtdilpodccjlkgaaGreatDoorJf
import Derived.Test.YtdilpodccjlkgaaGreatDoorJm
import Derived.Test.YtdilpodccjlkgaaGreatDoorJc
set_option linter.unusedVariables false
set_option linter.unusedSimpArgs false
set_option linter.unusedSectionVars false
namespace Go.Proofs.YtdilpodccjlkgaaGreatDoor
open Go.Proofs.Tryz
theorem tO {f:ac} {v:Int} {y:aF} (h:dz f v=some y):∃j k:Nat,xL f j k y∧y.dst=v∧aL f v=((j:Int),(k:Int)):=by
 unfold dz at h
 split at h
 ·rename_i h0
  obtain ⟨i,b,h1,h2,h3⟩:=gv h0.1
  rcases h3 with ⟨_,_,_,h4⟩|⟨k,x,h4,h5,h6⟩
  ·omega
  ·rw[h2,h6,Int.toNat_natCast,Int.toNat_natCast,h1] at h
   have h:b.insts[k]?=some y:=h
   rw[h4] at h
   cases h
   exact ⟨i,k,⟨b,h1,h4⟩,h5,Prod.ext h2 h6⟩
 ·cases h
theorem DC {f:ac} {s:GS} (hg:bl f s) (h64:ld s) (hu:∀v:Int,f.params.length≤v→v<f.vars.length→(aL f v).1<0→vi s.ints v=0):fG f s (dI f):=by
 unfold dI
 have nn:0≤dV f:=kb
 have hno:=oe hg
 have key:∀(l:List Int) (K:KS),fG f s K→(∀v∈l,0≤v∧v<f.vars.length)→fG f s (l.foldl (gF f) K):=fun l=>by
  induction l with
  |nil=>exact fun _ h _=>h
  |cons v l ih=>
   intro K h hl
   refine ih _ ?_ fun q hq=>hl q (.tail _ hq)
   obtain ⟨h0,h1⟩:=hl v (.head _)
   unfold gF
   split
   ·rename_i h2
    have:=GW h2 hg h64 ⟨h1,h0⟩
    exact (h.add ⟨h0,nn⟩ (by omega)).add ⟨nn,h0⟩ (by omega)
   ·split
    ·rename_i h2
     exact h.both ⟨h0,nn⟩ (by rw[ms h2.1,hno];exact hu v h2.2.1 h1 h2.2.2)
    ·exact h
 exact key _ _ ⟨fun q hq=>(by cases hq),fun q hq=>(by cases hq)⟩ fun v hv=>cX.1 hv
theorem DD {f:ac} {s:GS} (hg:bl f s) (hf:fG f s (dI f)):∀l:List Int,(∀a∈l,(∀x∈(cA f a).insts,PX s x∧bL f x∧dL f x=true)∧∀r∈En f a,jB f s r)→fG f s (vN f l)
 |[],_=>hf
 |a::l,h=>by
  have ih:=DD hg hf l fun q hq=>h q (.tail _ hq)
  exact fG.stps hg _ _ (fG.rels _ _ ih (h a (.head _)).2) (h a (.head _)).1
section
variable {f:ac} (hR:b7 f)
include hR
theorem ig.good {s:GS} (hI:ig f s):Ge f s (fun v=>Av f s.blk s.pc v):=fun v y hv hy=>by
 obtain ⟨j,k,hat,hd,hm⟩:=tO hy
 obtain ⟨hF,hT⟩:=hR.inF hat
 have hv:cY f (aL f v) s.blk s.pc:=hv
 rw[hm] at hv
 exact ⟨⟨hI.px j k y hat hv,hF,hT,hd⟩,fun a ha=>od (p:=((j:Int),(k:Int))) hR.hE (hR.av hat a ha) hv (by dsimp only;omega)⟩
theorem ig.rels {s:GS} (hI:ig f s) {a:Int} (hd:gJ (ah f) a s.blk):∀r∈En f a,jB f s r:=by
 unfold En
 split
 ·rename_i p hp
  split
  ·rename_i hk
   obtain ⟨hav,h0⟩:=hR.brAv hd.rch hp hk.1
   obtain ⟨_,h2,h3⟩:=hR.one hd.rch hp
   have hG:=hR.hE.grph
   refine DA (hI.good hR) ?_ (hI.br a p hd hp hk.1 hk.2)
   rcases hav with h|⟨e,_⟩|⟨g0,g1,g2⟩
   ·exact .inl h
   ·refine .inr (.inr ⟨?_,fun e2=>?_,?_⟩)
    ·obtain ⟨g1,_⟩:=hR.pred hp
     have hp:0≤p∧p<f.blocks.length:=Classical.byContradiction fun hn=>by rw[f6 hn] at g1;cases g1
     omega
    ·rw[e] at e2;subst e2
     exact h3 (fm hG h2 hd)
    ·rw[e];exact h2.trans hd
   ·refine .inr (.inr ⟨g0,fun e2=>?_,(g2.trans h2).trans hd⟩)
    rw[e2] at g2
    exact h3 (fm hG h2 (hd.trans g2))
  ·exact fun r hr=>(by cases hr)
 ·exact fun r hr=>(by cases hr)
theorem ig.place {s:GS} (hI:ig f s):fG f s (BI f s.blk s.pc):=by
 have hG:=hR.hE.grph
 obtain ⟨i,hi⟩:∃i:Nat,s.blk=(i:Int):=⟨s.blk.toNat,by have:=hI.g.b0;omega⟩
 have hil:i<f.blocks.length:=by have:=hI.g.b1;omega
 have hrch:oA (ah f) s.blk:=by rw[hi];exact hR.hs.2.1 i hil
 have hmem:=(bQ hG.toEOk s.blk).2 hrch
 have all:∀a:Int,0≤a→a<f.blocks.length→(∀(k:Nat) (x:aF),(cA f a).insts[k]?=some x→cY f (a,(k:Int)) s.blk s.pc→PX s x∧bL f x∧dL f x=true):=fun a h0 h1 k x hx ha=>by
  obtain ⟨j,rfl⟩:∃j:Nat,a=(j:Int):=⟨a.toNat,by omega⟩
  have hb:=qt (show j<f.blocks.length by omega)
  rw[du hb] at hx
  have hat:xL f j k x:=⟨_,hb,hx⟩
  exact ⟨hI.px j k x hat ha,hR.inF hat⟩
 unfold BI
 refine fG.stps hI.g _ _ (fG.rels _ _ (DD hI.g (DC hI.g hI.r64 hI.un) _ fun a ha=>?_) (hI.rels hR (.refl hrch))) fun x hx=>?_
 ·have:a≠s.blk∧gJ (ah f) a s.blk:=by
   unfold Eo at ha
   obtain ⟨m,hm⟩:∃m,f.blocks.length=m+1:=⟨f.blocks.length - 1,by omega⟩
   have hlen:(aB (ah f) f.blocks.length).length≤f.blocks.length:=e7 hG
   have hlv:gi (bP (ah f) f.blocks.length) s.blk<m+1:=by
    have:=hG.at_lt hmem
    have:=tu hG hmem
    omega
   have hch:db (bt (ah f) f.blocks.length) f.blocks.length s.blk=s.blk::if s.blk=0 then[] else db (bt (ah f) f.blocks.length) m (gi (bt (ah f) f.blocks.length) s.blk):=by
    conv=>lhs;rw[show db (bt (ah f) f.blocks.length) f.blocks.length s.blk=db (bt (ah f) f.blocks.length) (m+1) s.blk from by rw[←hm]]
    rfl
   rw[hch,List.tail_cons] at ha
   split at ha
   ·cases ha
   ·rename_i h0
    obtain ⟨g1,_⟩:=hG.near_mem hmem h0
    have hl:=hG.lev_near hmem h0
    have hanc:=(lA hG m _ g1 (by omega)).1 ha
    have hla:=hG.lev_anc g1 hanc
    refine ⟨fun e=>by rw[e] at hla;omega,?_⟩
    exact (hG.dom_iff hmem).2 (.up h0 (hG.exact.has s.blk hmem) hanc)
  obtain ⟨hne,hd⟩:=this
  have har:=dg hG.toEOk ((bQ hG.toEOk a).2 hd.rch)
  refine ⟨fun x hx=>?_,hI.rels hR hd⟩
  obtain ⟨k,hk,e⟩:=List.getElem_of_mem hx
  exact all a har.1 har.2 k x (by rw[qt hk,e]) (.inr (.inr ⟨har.1,hne,hd⟩))
 ·obtain ⟨k,hk,e⟩:=List.getElem_of_mem hx
  have hk2:=hk
  rw[w7] at hk2
  rw[List.getElem_take] at e
  exact all s.blk hI.g.b0 hI.g.b1 k x (by rw[qt (by omega),e]) (.inr (.inl ⟨rfl,by dsimp only;omega⟩))
theorem ig.never {s:GS} (hI:ig f s) {x:aF} (hx:(cA f s.blk).insts[s.pc]?=some x) (hc:18≤x.op∧x.op≤24) (hp:iM f (BI f s.blk s.pc) x=true):cZ s x.op x.args=true:=by
 obtain ⟨i,hi⟩:∃i:Nat,s.blk=(i:Int):=⟨s.blk.toNat,by have:=hI.g.b0;omega⟩
 have hil:i<f.blocks.length:=by have:=hI.g.b1;omega
 have hb:=qt hil
 have hat:xL f i s.pc x:=⟨_,hb,by rw[hi,du hb] at hx;exact hx⟩
 obtain ⟨hF,hT⟩:=hR.inF hat
 refine GY hI.g hF hT hc (hI.place hR) (fun hn=>?_) hp
 unfold Fh at hn
 split at hn
 ·rename_i y hy
  have h15:=wd hn
  have hl:0<x.args.length:=by
   rcases Nat.eq_zero_or_pos x.args.length with h|h
   ·have:=hF.argc
    obtain ⟨j,hj⟩:∃j:Nat,x.op=(j:Int):=⟨x.op.toNat,by omega⟩
    rw[h,hj] at this
    have hj2:j=18∨j=19∨j=20∨j=21∨j=22∨j=23∨j=24:=by omega
    rcases hj2 with rfl|rfl|rfl|rfl|rfl|rfl|rfl<;>exact absurd this (by decide)
   ·exact h
  have hav:Av f s.blk s.pc (bj x):=by rw[hi];exact hR.av hat _ (Dz hl)
  obtain ⟨⟨hP,_,_,hd⟩,_⟩:=hI.good hR _ y hav hy
  have:=(hP.i15 h15).1
  rw[hd] at this
  exact this
 ·cases hn
end
end Go.Proofs.YtdilpodccjlkgaaGreatDoor
namespace Go.Proofs.YtdilpodccjlkgaaGreatDoor
open Go.Proofs.Tryz
structure KB (f:ac) (K:KS):Prop where
 fac:∀q∈K.l,Cn (f.vars.length+1) q∧(-bN≤q.c∧q.c≤bN)
 len:K.l.length≤8192
def aV (f:ac) (v:Int):Prop:=0≤v∧v≤f.vars.length
section
variable {f:ac} {K:KS}
theorem KB.emp (f:ac):KB f ⟨[],[]⟩:=⟨fun q hq=>(by cases hq),by decide⟩
theorem KB.pass (h:KB f K) (p:List (Int × List Int)):KB f ⟨K.l,p⟩:=⟨h.fac,h.len⟩
theorem fX:aV f (dV f):=by unfold aV dV;omega
theorem KB.add (h:KB f K) {a b c:Int} (ha:aV f a) (hb:aV f b):KB f (et K a b c):=by
 unfold et
 split
 ·rename_i hc
  refine ⟨fun q hq=>?_,by simp;omega⟩
  rcases List.mem_append.1 hq with hq|hq
  ·exact h.fac q hq
  ·rw[List.mem_singleton.1 hq]
   unfold aV at ha hb
   unfold Cn oL
   dsimp only
   omega
 ·exact h
theorem KB.addO (h:KB f K) {a b:Int} {o:Option Int} (ha:aV f a) (hb:aV f b):KB f (addO K a b o):=by cases o with|none=>exact h|some c=>exact h.add ha hb
theorem KB.both (h:KB f K) {a b:Int} (ha:aV f a) (hb:aV f b):KB f (iA K a b):=(h.add ha hb).add hb ha
theorem cM {v:Int} (h:v<f.vars.length∧0≤v):aV f v:=⟨h.2,by omega⟩
theorem KB.stp (h:KB f K) {x:aF} (hF:bL f x):KB f (d5 f K x):=by
 have a0:∀{k:Int},x.op=k→0<([0,1,2,2,2,2,2,2,2,2,1,2,1,2,3,1,0,1,2,1,1,2,2,2,1,2,2][k.toNat]?).getD 0→aV f (bj x):=fun e h=>cM (hF.a0 (by rw[hF.cnt e];exact h))
 have a1:∀{k:Int},x.op=k→1<([0,1,2,2,2,2,2,2,2,2,1,2,1,2,3,1,0,1,2,1,1,2,2,2,1,2,2][k.toNat]?).getD 0→aV f (bY x):=fun e h=>cM (hF.a1 (by rw[hF.cnt e];exact h))
 have nn:aV f (dV f):=fX
 unfold d5
 split
 ·unfold lW
  have hp:=h.pass (K.p++[(x.op,x.args)])
  split
  ·rename_i e;exact (hp.add nn (a1 e (by decide))).add (a1 e (by decide)) (a0 e (by decide))
  split
  ·rename_i _ e;exact (hp.add nn (a0 e (by decide))).add (a0 e (by decide)) nn
  split
  ·rename_i _ _ e
   split
   ·exact hp.add nn (a0 e (by decide))
   ·split
    ·exact hp.add (a0 e (by decide)) nn
    ·exact hp
  ·exact hp
 ·unfold lV
  split
  ·rename_i e
   have hd:=cM (hF.d e.1 rfl)
   exact (h.add hd nn).add nn hd
  split
  ·rename_i _ e
   rcases e with e|e|e
   ·exact h.both (cM (hF.d e.1 rfl)) (a0 e.1 (by decide))
   ·exact h.both (cM (hF.d e rfl)) (a0 e (by decide))
   ·exact h.both (cM (hF.d e rfl)) (a0 e (by decide))
  split
  ·rename_i e;exact h.both (cM (hF.d e rfl)) nn
  split
  ·rename_i e
   have hd:aV f x.dst:=by rcases e with e|e<;>exact cM (hF.d e rfl)
   have h0:aV f (bj x):=by rcases e with e|e<;>exact a0 e (by decide)
   have h1:aV f (bY x):=by rcases e with e|e<;>exact a1 e (by decide)
   unfold mV
   split
   ·exact h
   ·split
    ·exact (h.addO hd h0).addO h0 hd
    ·exact (((h.addO hd h0).addO h0 hd).addO hd h1).addO h1 hd
  split
  ·rename_i e
   have hd:aV f x.dst:=by rcases e with e|e<;>exact cM (hF.d e rfl)
   have h0:aV f (bj x):=by rcases e with e|e<;>exact a0 e (by decide)
   have h1:aV f (bY x):=by rcases e with e|e<;>exact a1 e (by decide)
   have hA:KB f (eW f K x):=by
    unfold eW
    split
    ·exact (h.add nn hd).add hd h0
    ·exact h
   unfold jA
   split
   ·exact hA.add hd h1
   ·exact hA
  ·exact h
theorem KB.stps:∀(l:List aF) (K:KS),KB f K→(∀x∈l,bL f x)→KB f (l.foldl (d5 f) K)
 |[],_,h,_=>h
 |x::l,_,h,hl=>KB.stps l _ (h.stp (hl x (.head _))) fun q hq=>hl q (.tail _ hq)
theorem KB.rel (h:KB f K) {r:wI} (ha:aV f r.a) (hb:aV f r.b):KB f (gx K r):=by
 unfold gx
 split
 ·exact h.add ha hb
 ·split
  ·exact h.add ha hb
  ·split
   ·exact h.both ha hb
   ·exact h
theorem KB.first:KB f (dI f):=by
 unfold dI
 have key:∀(l:List Int) (K:KS),KB f K→(∀v∈l,0≤v∧v<f.vars.length)→KB f (l.foldl (gF f) K):=fun l=>by
  induction l with
  |nil=>exact fun _ h _=>h
  |cons v l ih=>
   intro K h hl
   refine ih _ ?_ fun q hq=>hl q (.tail _ hq)
   obtain ⟨h0,h1⟩:=hl v (.head _)
   have hv:aV f v:=⟨h0,by omega⟩
   unfold gF
   split
   ·exact (h.add hv fX).add fX hv
   ·split
    ·exact h.both hv fX
    ·exact h
 exact key _ _ (KB.emp f) fun v hv=>cX.1 hv
end
end Go.Proofs.YtdilpodccjlkgaaGreatDoor
namespace Go.Proofs.YtdilpodccjlkgaaGreatDoor
open Go.Proofs.Tryz
def rz (f:ac) (v:Int):Nat:=if 0≤(aL f v).1∧0≤(aL f v).2 then (gi (bP (ah f) f.blocks.length) (aL f v).1).toNat*1025+(aL f v).2.toNat+1 else 0
theorem iD:∀(l:List aX) (b:aX),b∈l→b.insts.length≤fc l
 |c::l,b,h=>by
  have e:fc (c::l)=c.phis.length+c.insts.length+fc l:=by unfold fc;simp
  rcases List.mem_cons.1 h with rfl|h
  ·omega
  ·have:=iD l b h;omega
section
variable {f:ac} (hR:b7 f)
include hR
theorem b7.insts {i k:Nat} {x:aF} (h:xL f i k x):k<1024∧i<f.blocks.length:=by
 obtain ⟨b,hb,hx⟩:=h
 have h1:=iD _ _ (w4 hb)
 have h2:=hR.hS.2.2.2.2.1
 have h3:=(List.getElem?_eq_some_iff.1 hx).1
 exact ⟨by omega,(List.getElem?_eq_some_iff.1 hb).1⟩
theorem b7.nblk:f.blocks.length≤64:=by
 have h:=hR.hS.1
 unfold nt at h
 simp only[Bool.or_eq_false_iff,decide_eq_false_iff_not] at h
 omega
theorem b7.lev {i:Nat} (hi:i<f.blocks.length):0≤gi (bP (ah f) f.blocks.length) (i:Int)∧gi (bP (ah f) f.blocks.length) (i:Int)<f.blocks.length:=by
 have hG:=hR.hE.grph
 have hm:=(bQ hG.toEOk (i:Int)).2 (hR.hs.2.1 i hi)
 have:=hG.lev_nn hm
 have:=tu hG hm
 have:=hG.at_lt hm
 have:=e7 hG
 omega
theorem b7.rk_arg {v:Int} {y:aF} (h:dz f v=some y):∀a∈y.args,rz f a<rz f v:=fun a ha=>by
 obtain ⟨j,k,hat,hd,hm⟩:=tO h
 have hav:=hR.av hat a ha
 have hG:=hR.hE.grph
 have ev:rz f v=(gi (bP (ah f) f.blocks.length) (j:Int)).toNat*1025+k+1:=by
  unfold rz;rw[hm,if_pos ⟨by dsimp only;omega,by dsimp only;omega⟩];rfl
 rw[ev]
 unfold rz
 split
 ·rename_i h0
  obtain ⟨i,b,h1,h2,h3⟩:=gv h0.1
  rcases h3 with ⟨_,_,_,h4⟩|⟨q,x,h4,h5,h6⟩
  ·omega
  ·have hat2:xL f i q x:=⟨b,h1,h4⟩
   have hb:=hR.insts hat2
   unfold Av at hav
   have hm2:aL f a=((i:Int),(q:Int)):=Prod.ext h2 h6
   rw[hm2] at hav ⊢
   have l1:=hR.lev hb.2
   have l2:=hR.lev (hR.insts hat).2
   rcases hav with g|⟨g1,g2⟩|⟨_,g1,g2⟩
   ·dsimp only at g;omega
   ·dsimp only at g1 g2 ⊢
    rw[g1,Int.toNat_natCast];omega
   ·dsimp only at g1 g2 ⊢
    have hmj:=(bQ hG.toEOk (j:Int)).2 g2.1
    have hla:=hG.lev_anc hmj ((hG.dom_iff hmj).1 g2)
    have:gi (bP (ah f) f.blocks.length) (i:Int)<gi (bP (ah f) f.blocks.length) (j:Int):=by
     rcases Int.lt_or_le (gi (bP (ah f) f.blocks.length) (i:Int)) (gi (bP (ah f) f.blocks.length) (j:Int)) with h|h
     ·exact h
     ·exact absurd (hla.2.2 h) g1
    rw[Int.toNat_natCast];omega
 ·omega
theorem b7.rk_low (v:Int):rz f v<100000:=by
 unfold rz
 split
 ·rename_i h0
  obtain ⟨i,b,h1,h2,h3⟩:=gv h0.1
  rcases h3 with ⟨_,_,_,h4⟩|⟨q,x,h4,h5,h6⟩
  ·omega
  ·have hat2:xL f i q x:=⟨b,h1,h4⟩
   have hb:=hR.insts hat2
   have l1:=hR.lev hb.2
   have:=hR.nblk
   rw[h2,h6,Int.toNat_natCast]
   omega
 ·omega
theorem b7.madeF {v:Int} {y:aF} (h:dz f v=some y):bL f y∧dL f y=true∧y.dst=v:=by
 obtain ⟨j,k,hat,hd,_⟩:=tO h
 exact ⟨(hR.inF hat).1,(hR.inF hat).2,hd⟩
def vO (f:ac) (r:wI):Prop:=(aV f r.a∧aV f r.b)∧(0≤r.n∧r.n≤2)
omit hR in
theorem qT {q:kz} (h:∀r∈q.out,vO f r) {a b n:Int} (hr:vO f ⟨a,b,n⟩):∀r∈(fd q a b n).out,vO f r:=by
 unfold fd
 split
 ·exact h
 ·intro r hm
  rcases List.mem_append.1 hm with hm|hm
  ·exact h r hm
  ·rw[List.mem_singleton.1 hm];exact hr
theorem sS:∀(n:Nat) (q:kz) (c:Int) (is:Bool),(∀r∈q.out,vO f r)→∀r∈(kC f n q c is).out,vO f r
 |0,q,_,_,h=>h
 |n+1,q,c,is,h=>by
  unfold kC
  split
  ·exact h
  split
  ·exact h
  rename_i x hx
  obtain ⟨hF,_,_⟩:=hR.madeF hx
  have a0:∀{k:Int},x.op=k→0<([0,1,2,2,2,2,2,2,2,2,1,2,1,2,3,1,0,1,2,1,1,2,2,2,1,2,2][k.toNat]?).getD 0→aV f (bj x):=fun e h=>cM (hF.a0 (by rw[hF.cnt e];exact h))
  have a1:∀{k:Int},x.op=k→1<([0,1,2,2,2,2,2,2,2,2,1,2,1,2,3,1,0,1,2,1,1,2,2,2,1,2,2][k.toNat]?).getD 0→aV f (bY x):=fun e h=>cM (hF.a1 (by rw[hF.cnt e];exact h))
  split
  ·exact sS n ⟨_,_⟩ _ _ h
  split
  ·exact sS n ⟨_,_⟩ _ _ h
  split
  ·split
   ·exact sS n _ _ _ (sS n ⟨_,_⟩ _ _ h)
   ·exact h
  split
  ·rename_i e
   split
   ·exact qT (q:=⟨q.seen++[(c,is)],q.out⟩) h ⟨⟨a0 e (by decide),a1 e (by decide)⟩,by dsimp only;omega⟩
   ·exact qT (q:=⟨q.seen++[(c,is)],q.out⟩) h ⟨⟨a1 e (by decide),a0 e (by decide)⟩,by dsimp only;omega⟩
  split
  ·rename_i e
   split
   ·exact qT (q:=⟨q.seen++[(c,is)],q.out⟩) h ⟨⟨a0 e (by decide),a1 e (by decide)⟩,by dsimp only;omega⟩
   ·exact qT (q:=⟨q.seen++[(c,is)],q.out⟩) h ⟨⟨a1 e (by decide),a0 e (by decide)⟩,by dsimp only;omega⟩
  split
  ·rename_i e
   split
   ·exact qT (q:=⟨q.seen++[(c,is)],q.out⟩) h ⟨⟨a0 e (by decide),a1 e (by decide)⟩,by dsimp only;omega⟩
   ·exact h
  ·exact h
theorem IL (i:Int):∀r∈En f i,vO f r:=by
 unfold En
 split
 ·split
  ·exact sS hR _ _ _ _ fun r hr=>(by cases hr)
  ·exact fun r hr=>(by cases hr)
 ·exact fun r hr=>(by cases hr)
omit hR in
theorem KB.rels:∀(l:List wI) (K:KS),KB f K→(∀r∈l,vO f r)→KB f (l.foldl gx K)
 |[],_,h,_=>h
 |r::l,_,h,hl=>KB.rels l _ (h.rel (hl r (.head _)).1.1 (hl r (.head _)).1.2) fun q hq=>hl q (.tail _ hq)
theorem KB.entr {K:KS} (h:KB f K) (i:Int):KB f (og f K i):=KB.rels _ _ h (IL hR i)
theorem b7.blkF {i:Int} (h0:0≤i) (h1:i<f.blocks.length):∀x∈(cA f i).insts,bL f x:=fun x hx=>(hR.run.insts _ (mS h0 h1) x hx).1
end
end Go.Proofs.YtdilpodccjlkgaaGreatDoor
namespace Go.Proofs.YtdilpodccjlkgaaGreatDoor
open Go.Proofs.Tryz
open Go.Proofs Go.Lib Go.Shelf Go.RowKit
theorem Fo:dE prog 54 #[(0,1),(1,1),(2,1),(3,1)] [.int .i64 0,.int .i64 0,.raw (.slice none 0 0),.int .i64 0]:=⟨_,_,j5,Zf,fun w=>by kernel_rfl,rfl⟩
variable {E:World}
set_option maxRecDepth 20000
def b9 (q:Int × List Int):List AV:=[.int .i64 q.1,.fro 1 (q.2.map da)]
def vP (P:List (Int × List Int)):Prop:=P.length≤1000000∧∀q∈P,q.2.length≤1000
def xQ (f:ac) (K:KS) (t pr:AV):AV:=xc (.fro 2 (f.vars.map gD)) (.fro 1 (f.params.map da)) (.fro 7 (f.blocks.map dk)) t (.fro 2 ((cf f).map eP.row)) pr (f.vars.length+1) K.l (dV f) (.fro 2 (K.p.map b9))
theorem iE {f:ac} {K:KS} (hv:f.vars.length≤1000) (h:KB f K):pp (f.vars.length+1) K.l:=⟨by omega,h.fac,by have:=h.len;omega⟩
theorem fy {f:ac} {v:Int} (h:aV f v):oL (f.vars.length+1) v:=by unfold aV at h;unfold oL;omega
theorem cU {x:aF} (h:0<x.args.length):x.args[0]?=some (bj x):=by unfold bj;rw[qt h];rfl
theorem dx {x:aF} (h:1<x.args.length):x.args[1]?=some (bY x):=by unfold bY;rw[qt h];rfl
theorem G0 (op:Int) (k:Nat) (hk:k≤2) (hop:op=21+(k:Int)) {a b:fI} (ha:mC a) (hb:mC b):aM prog E 158 [.int .i64 op,.agg (nk a),.agg (nk b)] (.bool (decide (a.2<a.1∨b.2<b.1∨kj k a b))):=by
 have hcp:=uE k a b
 have hop2:2+op - 21=2+(k:Int):=by omega
 refine zp func158 Z (by decide) Z<|ai<|y9 (cs:=_) Z Z Z<|y9 (cs:=_) Z Z Z<|ab Z<|z6<|zd<|zd<|ye (γ:=Bool) [0,4,5] (fun u=>[(12,.bool u)]) (fun u=>[]) (fun u=>u=true) ?_ (fun _ _ h=>h) ?_
 ·refine aT<|aa Z<|za (q5 Z Z)<|aj Z<|zq (s:=9) Z (fun c=>?_) (fun c=>?_)
  ·refine z8 Z Z c<|aa Z<|z8 Z Z c<|za (Gv.leq Z Z)<|aw Z c Z<|z6 ?_
   exact ⟨_,de,aK,aH,by simp_all<;>omega⟩
  ·exfalso;simp at c;omega
 ·rintro u hu
  subst hu
  refine yu Z Z<|aT<|aa Z<|aC Z Z<|za (Gv.sub Z Z (by unfold kJ;omega))<|ak Z<|z6<|ai<|aa Z<|zg (F9 _) Z<|aj Z<|zq (s:=18) Z (fun c1=>?_) (fun c1=>?_)
  ·refine z8 Z Z c1<|ae Y6 Za Z Z<|z8 Z Z c1<|zg (nl _) Z<|z8 Z Z c1<|aj Z<|zq (s:=21) Z (fun c2=>?_) (fun c2=>?_)
   ·refine z7 Z Z c2<|z7 Z Z c2<|z8 Z Z c1<|aw Z c2 Z<|z8 Z Z c1<|aj Z<|z7 Z Z Z<|z7 Z Z Z<|z7 Z Z Z<|z7 Z Z Z<|z7 Z Z Z<|z7 Z Z Z<|z8 Z Z c1<|aw Z Z Z<|aw Z c1 Z<|ab Z<|z6<|zi<|zn (x:=.bool _) Z ?_
    exact jb (by simp_all)
   ·refine z8 Z Z c2<|ae Y6 Za Z Z<|z8 Z Z c2<|zg (nl _) Z<|z8 Z Z c1<|ay Z c2 Z<|z8 Z Z c1<|aj Z<|zq (s:=25) Z (fun c3=>?_) (fun c3=>?_)
    ·refine z7 Z Z c3<|z7 Z Z c3<|z7 Z Z c3<|z7 Z Z c3<|z7 Z Z c3<|z7 Z Z c3<|z8 Z Z c1<|aw Z c3 Z<|aw Z c1 Z<|ab Z<|z6<|zi<|zn (x:=.bool _) Z ?_
     exact jb (by simp_all)
    ·refine z8 Z Z c3<|aa Z<|z8 Z Z c3<|ae Y6 Za Z Z<|z8 Z Z c3<|ae Y6 Za Z Z<|z8 Z Z c3<|zg (uZ (2+op - 21) k hk hop2 ha hb) Z<|z8 Z Z c3<|za (Gv.field1 (v:=.bool _) Xc Z Ym Z Z)<|z8 Z Z c3<|aD Z<|z8 Z Z c1<|ay Z c3 Z<|aw Z c1 Z<|ab Z<|z6<|zi<|zn (x:=.bool _) Z ?_
     exact jb (by have h2:¬a.2<a.1:=(by simpa using c2);have h3:¬b.2<b.1:=(by simpa using c3);simp[h2,h3,hcp])
  ·exfalso;simp at c1;omega
theorem DE {f:ac} {K:KS} (hv:f.vars.length≤1000) (h:KB f K) (a b c d:Int):mC (-(fu K.l (f.vars.length+1) a b).getD 0,(fu K.l (f.vars.length+1) c d).getD 0):=by
 have h1:=oO (iE hv h) (a:=a) (b:=b)
 have h2:=oO (iE hv h) (a:=c) (b:=d)
 unfold mC bB
 have hm:F2=-9223372036854775808:=rfl
 have hM:F3=9223372036854775807:=rfl
 dsimp only
 omega
section
variable {f:ac} {K:KS} {t pr:AV} (hv:f.vars.length≤1000) (hK:KB f K)
include hv hK
theorem mY (x:aF) (hx:1<x.args.length) (h0:aV f (bj x)) (h1:aV f (bY x)) (k:Nat) (hk:k≤2) (hop:x.op=2+(k:Int)∨x.op=21+(k:Int)) :
  aM prog E 115 [xQ f K t pr,.agg (bF x)] (.bool (mU f K k (bj x) (bY x))):=by
 have hl:=iE hv hK
 have hq:=fy (fX (f:=f))
 have hs0:=pq (E:=E) (f0:=.fro 2 (f.vars.map gD)) (f1:=.fro 1 (f.params.map da)) (f2:=.fro 7 (f.blocks.map dk)) (t:=t) (m:=.fro 2 ((cf f).map eP.row)) (pr:=pr) (ps:=.fro 2 (K.p.map b9)) hl (fy h0) hq
 have hs1:=pq (E:=E) (f0:=.fro 2 (f.vars.map gD)) (f1:=.fro 1 (f.params.map da)) (f2:=.fro 7 (f.blocks.map dk)) (t:=t) (m:=.fro 2 ((cf f).map eP.row)) (pr:=pr) (ps:=.fro 2 (K.p.map b9)) hl (fy h1) hq
 have ha:=DE hv hK (dV f) (bj x) (bj x) (dV f)
 have hb:=DE hv hK (dV f) (bY x) (bY x) (dV f)
 have hfit:aM prog E 158 _ _:=hop.elim (fun e=>HP x.op k hk e ha hb) (fun e=>G0 x.op k hk e ha hb)
 have fin:∀P Q R S:Option Int,fo f K (dV f) (bj x)=P→fo f K (bj x) (dV f)=Q→fo f K (dV f) (bY x)=R→fo f K (bY x) (dV f)=S →
   mU f K k (bj x) (bY x)=((P.isSome&&Q.isSome)&&((R.isSome&&S.isSome)&&decide ((-P.getD 0,Q.getD 0).2<(-P.getD 0,Q.getD 0).1∨(-R.getD 0,S.getD 0).2<(-R.getD 0,S.getD 0).1∨kj k (-P.getD 0,Q.getD 0) (-R.getD 0,S.getD 0)))):=fun P Q R S e1 e2 e3 e4=>by
  unfold mU vM
  rw[e1,e2,e3,e4]
  cases P<;>cases Q<;>cases R<;>cases S<;>simp[Ds]
 have fin:=fin _ _ _ _ rfl rfl rfl rfl
 unfold fo at fin
 rw[fin]
 unfold xQ xc at *
 refine zp func115 Z (by decide) Z<|ai<|y9 (cs:=_) Z Z Z<|ab Z<|z6<|ai<|za (fe Z)<|au j5 Z j7 Z Z<|aI je Z<|za (bv 0 wy wz Z Z Z (cU (by omega)))<|aA j6 Z<|zg (hs0) Z<|za (kw Z)<|za (qa (v:=.agg _) Z Z)<|za (jO Z Z)<|y6 (cs:=[.int .i64 0,.int .i64 0]) X0 Z Z<|fun i5=>y1 Za Z Z Z Z Z Z .head Z<|ze (yc (t:=5) Z .head)<|ab Z<|z6<|ai<|za (fe Z)<|au j5 Z j7 Z Z<|aI je Z<|za (bv 1 wy wz Z Z Z (dx hx))<|aA j6 Z<|zg (hs1) Z<|za (kw Z)<|za (qa (v:=.agg _) Z Z)<|za (jO Z Z)<|y6 (cs:=[.int .i64 0,.int .i64 0]) X0 Z Z<|fun i7=>y1 Za Z Z Z Z Z Z .head Z<|ze (yc (t:=7) Z .head)<|ab Z<|z6<|ai<|aj Z<|aj Z<|zq (s:=28) Z (fun c1=>?_) (fun c1=>?_)
 ·refine z8 Z Z c1<|aj Z<|aw Z c1 Z<|aj Z<|zq (s:=31) Z (fun c2=>?_) (fun c2=>?_)
  ·refine z8 Z Z c2<|au j5 Z Z2 Z Z<|z8 Z Z c2<|aA Z3 Z<|z8 Z Z c2<|ae Y6 Za Z Z<|z8 Z Z c2<|ae Y6 Za Z Z<|z8 Z Z c2<|zg (hfit) Z<|aw Z c2 Z<|ab Z<|z6<|zi<|zn (x:=.bool _) Z ?_
   exact jb (by simp_all)
  ·refine z7 Z Z c2<|z7 Z Z c2<|z7 Z Z c2<|z7 Z Z c2<|z7 Z Z c2<|ay Z c2 Z<|ab Z<|z6<|zi<|zn (x:=.bool _) Z ?_
   exact jb (by simp_all)
 ·refine z7 Z Z c1<|ay Z c1 Z<|aj Z<|z7 Z Z Z<|z7 Z Z Z<|z7 Z Z Z<|z7 Z Z Z<|z7 Z Z Z<|ay Z Z Z<|ab Z<|z6<|zi<|zn (x:=.bool _) Z ?_
  exact jb (by simp_all)
theorem xR (op:Int) (l:List Int) (q:Int × List Int) (hq:q.2.length≤1000):aM prog E 154 ([.agg (b9 q)]++[.pf [.int .i64 op],.pf [.fro 1 (l.map da)]]) (.bool (decide (q.1=op∧q.2=l))):=by
 refine zp func154 Z (by decide) Z<|ai<|y9 (cs:=_) Z Z Z<|ab Z<|z6<|ai<|au underlying187 Z Z2 Z Z<|aA Z3 Z<|aA Z3 Z<|ao Z Z<|aj Z<|zq (s:=9) Z (fun c3=>?_) (fun c3=>?_)
 ·refine z8 Z Z c3<|au underlying187 Z j7 Z Z<|z8 Z Z c3<|aI je Z<|z8 Z Z c3<|aI je Z<|z8 Z Z c3<|zg (nV q.2 l (by unfold pA;omega)) Z<|aw Z c3 Z<|ab Z<|z6<|zi<|zn (x:=.bool _) Z ?_
  exact jb (by simp_all)
 ·refine z7 Z Z c3<|z7 Z Z c3<|z7 Z Z c3<|z7 Z Z c3<|ay Z c3 Z<|ab Z<|z6<|zi<|zn (x:=.bool _) Z ?_
  exact jb (by simp_all)
omit hv hK in
theorem oG {p:Int × List Int→Bool} {fn:FuncId} {c:List AV} (xs:List (Int × List Int)) (hl:xs.length≤281474976710656) (hp:∀x∈xs,aM prog E fn ([.agg (b9 x)]++c) (.bool (p x))) :
  aM prog E 186 [.fro 2 (xs.map b9),.fn fn [] c] (.int .i64 (cE p xs 0)):=by
 refine zp func186 Z (by decide) Z<|ai<|ak Z<|z6<|zd<|ai<|bc Z<|ap Xj Z<|aa Z<|z6<|zk<|y7 (γ:=Nat) [0,1,7] (fun k=>[(8,.int .i64 k)]) (fun k=>[]) (fun k=>k≤xs.length∧(xs.take k).all (fun x=>!p x)) (fun k=>xs.length - k) 0 aK aH (⟨qw _,Z⟩) ?_
 rintro k ⟨hk,hall⟩
 refine ai<|ax Z Z<|z6<|zd<|zt Z (fun ck=>?_) (fun ck=>?_)
 ·have hk2:k<xs.length:=by simp at ck;omega
  refine zh<|zd<|zk<|ai<|aa Z<|ak Z<|z6<|ai<|za (yw (v:=.fn _ _ _) Z)<|bc Z<|aa Z<|za (bv k Xj sizeOf187 Z Z Z (qt hk2))<|ae isAgg187 sizeOf187 Z Z<|az.callVP Z (hp _ (qx hk2)) Z<|z6<|zy Z (fun cp=>?_) (fun cp=>?_)
  ·refine ai<|aa Z<|ak Z<|z6<|zi<|zn (x:=.int _ _) Z ?_
   rw[bE p xs k hk hall,List.drop_eq_getElem_cons hk2,cE,if_pos cp]
  ·refine zh<|aT<|aC Z Z<|aa Z<|z6 ?_
   exact ⟨k+1,de,aK,aH,⟨hk2,by rw[qu hk2,List.all_append,hall];simp[cp]⟩,by omega⟩
 ·have hkn:k=xs.length:=by simp at ck;omega
  refine y5<|ai<|ak Z<|z6<|zi<|zn (x:=.int _ _) Z ?_
  rw[bE p xs k hk hall,hkn,List.drop_length,cE]
omit hv hK in
theorem mj {p:Int × List Int→Bool} {fn:FuncId} {c:List AV} (xs:List (Int × List Int)) (hl:xs.length≤281474976710656) (hp:∀x∈xs,aM prog E fn ([.agg (b9 x)]++c) (.bool (p x))) :
  aM prog E 153 [.fro 2 (xs.map b9),.fn fn [] c] (.bool (xs.any p)):=by
 refine zp func153 Z (by decide) Z<|ai<|ab Z<|z6<|ai<|bc Z<|za (yw (v:=.fn _ _ _) Z)<|zg (oG xs hl hp) Z<|za (q5 Z Z)<|ab Z<|z6<|zi<|zn (x:=.bool _) Z ?_
 rw[eY]
theorem sT (hP:vP K.p) (op:Int) (l:List Int):aM prog E 112 [xQ f K t pr,.int .i64 op,.fro 1 (l.map da)] (.bool (qP K op l)):=by
 unfold xQ xc
 refine zp func112 Z (by decide) Z<|ai<|y9 (cs:=[_]) Z Z Z<|y9 (cs:=[_]) Z Z Z<|ab Z<|z6<|ai<|za (fe Z)<|za (yk Z)<|au j8 Z sizeOf72 Z Z<|aI isAgg72 Z<|za (Gv.func Z Z)<|zg (mj K.p (by have:=hP.1;omega) (fun q hq=>xR hv hK op l q (hP.2 q hq))) Z<|ab Z<|z6<|zi<|zn (x:=.bool _) Z ?_
 rfl
end
def I6 (o:Option aF):List AV:=match o with|some x=>bF x|none=>[.int .i64 0,.int .i64 0,.raw (.slice none 0 0),.int .i64 0]
theorem oh {f:ac} {K:KS} {t pr:AV} {v:Int} (h:bd f v=true):aM prog E 114 [xQ f K t pr,.int .i64 v] (.tup [.agg (I6 (dz f v)),.bool (dz f v).isSome]):=by
 obtain ⟨hv0,hvg⟩:=gc h
 unfold xQ xc
 refine zp func114 Z (by decide) Z<|ai<|y6 (cs:=[.int .i64 0,.int .i64 0,.raw (.slice none 0 0),.int .i64 0]) Zf Z Z<|fun i4=>ab Z<|z6<|ai<|za (fe Z)<|za (yk Z)<|au j8 Z Yu Z Z<|aI Xe Z<|aa Z<|za (bv v.toNat Zw Yt Z Z (by omega) hvg)<|ae isAgg77 Yt Z Z<|y6 (cs:=[.int .i64 0,.int .i64 0]) zeroValue77 Z Z<|fun i6=>y1 Yt Z Z Z Z Z Z .head Z<|ze (yc (t:=6) Z .head)<|z6<|zd<|zd<|ye (γ:=Bool) [0,4,6] (fun u=>[(21,.bool u)]) (fun u=>[(i4,.cells 54 [.int .i64 0,.int .i64 0,.raw (.slice none 0 0),.int .i64 0])]) (fun u=>u=decide (¬(0≤(aL f v).1∧0≤(aL f v).2))) ?_ (fun _ _ h=>h) ?_
 ·refine aT<|au Zp Z wz Z Z<|aA j6 Z<|ax Z Z<|aj Z<|zq (s:=17) Z (fun c4=>?_) (fun c4=>?_)
  ·refine z7 Z Z c4<|z7 Z Z c4<|z7 Z Z c4<|aw Z c4 Z<|z6 ?_
   exact ⟨_,de,aK,aH,by simp_all<;>omega⟩
  ·refine z8 Z Z c4<|au Zp Z wz Z Z<|z8 Z Z c4<|aA j6 Z<|z8 Z Z c4<|ax Z Z<|ay Z c4 Z<|z6 ?_
   exact ⟨_,de,aK,aH,by simp_all<;>omega⟩
 ·rintro u hu
  refine zy Z (fun cu=>?_) (fun cu=>?_)
  ·have hn:dz f v=none:=by unfold dz;rw[if_neg (wd (hu▸cu))]
   rw[hn]
   refine ai<|za (y4 (cps:=[]) (rs:=[.int .i64 0,.int .i64 0,.raw (.slice none 0 0),.int .i64 0]) Fo Z Z Z)<|y1 jx Z Z Z Z Z Z .head Z<|ab Z<|z6<|zi<|dZ.c1t (y:=.bool _) Z Z ⟨_,.head⟩ Y0 jx Z ?_
   rfl
  ·have hy:0≤(aL f v).1∧0≤(aL f v).2:=by rw[hu] at cu;simpa using cu
   obtain ⟨i,b,h1,h2,h3⟩:=gv hy.1
   obtain ⟨q,x,h4,h5,h6⟩:∃(q:Nat) (x:aF),b.insts[q]?=some x∧x.dst=v∧(aL f v).2=q:=by
    rcases h3 with ⟨_,_,_,h4⟩|h3
    ·omega
    ·exact h3
   have hm:dz f v=some x:=by unfold dz;rw[if_pos hy,h2,h6,Int.toNat_natCast,Int.toNat_natCast,h1];exact h4
   rw[hm]
   refine zh<|zd<|zr (fun j=>Nat.beq j 14) (by kernel_rfl) Z (zj (.rest _))<|ad 0 Z (fe Z)<|ad 1 Z (yk Z)<|ad 2 Z (bM j8 Z jj Z Z)<|ad 3 Z (bM jg Z Z8 Z Z)<|ad 4 Z (fa Zh Z)<|ad 5 Z (bM Zp Z wz Z Z)<|ad 6 Z (cR j6 Z)<|ad 7 Z (bv i ju jy Z Z h2 h1)<|ad 8 Z (bM ji Z Zq Z Z)<|ad 9 Z (fa Y4 Z)<|ad 10 Z (bM Zp Z wz Z Z)<|ad 11 Z (cR j6 Z)<|ad 12 Z (bv q jz jx Z Z h6 h4)<|ad 13 Z (yx Y0 jx Z Z)<|yf<|yi (i:=14) Z (by kernel_rfl) (by kernel_rfl)<|y1 jx Z Z Z Z Z Z .head Z<|z6<|yi (i:=15) Z (by kernel_rfl) (by kernel_rfl)<|ab Z<|z6<|ym (by kernel_rfl)<|zi<|dZ.c1t (y:=.bool _) Z Z ⟨_,.head⟩ Y0 jx Z ?_
   rfl
end Go.Proofs.YtdilpodccjlkgaaGreatDoor
namespace Go.Proofs.YtdilpodccjlkgaaGreatDoor
open Go.Proofs.Tryz
open Go.Proofs Go.Lib Go.Shelf Go.RowKit
variable {E:World}
set_option maxRecDepth 20000
theorem vQ {f:ac} {K:KS} {t pr:AV} {v:Int} (h:bd f v=true) (hm:dz f v=none):aM prog E 114 [xQ f K t pr,.int .i64 v] (.tup [.agg [.int .i64 0,.int .i64 0,.raw (.slice none 0 0),.int .i64 0],.bool false]):=by
 have:=oh (E:=E) (K:=K) (t:=t) (pr:=pr) h
 rw[hm] at this
 exact this
theorem vR {f:ac} {K:KS} {t pr:AV} {v:Int} (h:bd f v=true) {y:aF} (hm:dz f v=some y):aM prog E 114 [xQ f K t pr,.int .i64 v] (.tup [.agg (bF y),.bool true]):=by
 have:=oh (E:=E) (K:=K) (t:=t) (pr:=pr) h
 rw[hm] at this
 exact this
section
variable {f:ac} {K:KS} {t pr:AV} (hv:f.vars.length≤1000) (hK:KB f K)
include hv hK
theorem H3 {a b:Int} (ha:aV f a) (hb:aV f b) (c:Int):aM prog E 113 [zB (f.vars.length+1) K.l .any,.int .i64 a,.int .i64 b,.int .i64 c] (.bool (e9 f K a b c)):=rJ _ K.l .any (iE hv hK) (fy ha) (fy hb) c
set_option maxHeartbeats 4000000 in
theorem tP (hP:vP K.p) (x:aF) (hF:bL f x) (hc:18≤x.op∧x.op≤24):aM prog E 71 [xQ f K t pr,.agg (bF x)] (.bool (iM f K x)):=by
 have a0:aV f (bj x)∧0<x.args.length:=by
  have h:=hF.cnt (k:=x.op) rfl
  have h2:0<x.args.length:=by
   obtain ⟨k,hk,e⟩:∃k:Nat,k≤6∧x.op=18+(k:Int):=⟨(x.op - 18).toNat,by omega,by omega⟩
   rw[h,e]
   have:k=0∨k=1∨k=2∨k=3∨k=4∨k=5∨k=6:=by omega
   rcases this with rfl|rfl|rfl|rfl|rfl|rfl|rfl<;>decide
  exact ⟨cM (hF.a0 h2),h2⟩
 have hV0:bd f (bj x)=true:=by have:=hF.a0 a0.2;unfold bd;simpa using ⟨this.2,this.1⟩
 have a1:∀{k:Int},x.op=k→1<([0,1,2,2,2,2,2,2,2,2,1,2,1,2,3,1,0,1,2,1,1,2,2,2,1,2,2][k.toNat]?).getD 0→aV f (bY x)∧1<x.args.length:=fun e h=>⟨cM (hF.a1 (by rw[hF.cnt e];exact h)),by rw[hF.cnt e];exact h⟩
 have nn:aV f (dV f):=fX
 have hg0:=cU a0.2
 have hW:=sT (E:=E) (t:=t) (pr:=pr) hv hK hP x.op x.args
 have hM:=vQ (E:=E) (K:=K) (t:=t) (pr:=pr) hV0
 have hM2:=fun y=>vR (E:=E) (K:=K) (t:=t) (pr:=pr) hV0 (y:=y)
 have hwi:=fun h1 h2 k=>mY (E:=E) (t:=t) (pr:=pr) hv hK x h1 a0.1 h2 k
 have flw:=fun a b c ha hb=>H3 (E:=E) hv hK (a:=a) (b:=b) ha hb c
 unfold xQ xc at *
 unfold zB at flw ⊢
 unfold zB at hW hM hM2 hwi
 refine zp func71 Z (by decide) Z<|ai<|y9 (cs:=_) Z Z Z<|ab Z<|z6<|zd<|ai<|za (fe Z)<|au j5 Z Z2 Z Z<|aA Z3 Z<|au j5 Z j7 Z Z<|aI je Z<|zg (hW) Z<|z6<|zy Z (fun cw=>?_) (fun cw=>?_)
 ·refine ai<|ab Z<|z6<|zi<|zn (x:=.bool _) Z ?_
  rw[iM,cw];rfl
 ·rw[iM,cw,Bool.false_or]
  refine zh<|ai<|au j5 Z j7 Z Z<|aI je Z<|za (bv 0 wy wz Z Z Z hg0)<|aA j6 Z<|ak Z<|z6<|zd<|ai<|au j5 Z Z2 Z Z<|aA Z3 Z<|z6<|zk<|ai<|ao Z Z<|ab Z<|z6<|zt Z (fun c18=>?_) (fun c18=>?_)
  ·have c18:x.op=18:=c18
   have h1:=a1 c18 (by decide)
   rw[if_pos c18]
   refine zd<|zr (fun j=>false) (by kernel_rfl) Z (zj (.rest _))<|ad 0 Z (fe Z)<|ad 1 Z (yk Z)<|ad 2 Z (bM j8 Z Z7 Z Z)<|ad 3 Z (yv (c:=.pf _) Zg Z)<|ad 4 Z (fe Z)<|ad 5 Z (yk Z)<|ad 6 Z (bM j8 Z wz Z Z)<|ad 7 Z (cR j6 Z)<|ad 8 Z (bM j5 Z j7 Z Z)<|ad 9 Z (fa je Z)<|ad 10 Z (bv 1 wy wz Z Z Z (dx h1.2))<|ad 11 Z (cR j6 Z)<|aQ 12 Z<|zg (flw _ _ 0 nn h1.1) Z<|z6<|ad 13 Z (nT Z)<|ql (s:=35) Z (fun c1=>?_) (fun c1=>?_)
   ·refine cO 14 Z Z Z c1 (fe Z)<|cO 15 Z Z Z c1 (yk Z)<|cO 16 Z Z Z c1 (bM j8 Z Z7 Z Z)<|cO 17 Z Z Z c1 (yv (c:=.pf _) Zg Z)<|cO 18 Z Z Z c1 (bM j5 Z j7 Z Z)<|cO 19 Z Z Z c1 (fa je Z)<|cO 20 Z Z Z c1 (bv 1 wy wz Z Z Z (dx h1.2))<|cO 21 Z Z Z c1 (cR j6 Z)<|cO 22 Z Z Z c1 (cD Z)<|aQ 23 Z<|z8 Z Z c1<|zg (flw _ _ (-1) h1.1 a0.1) Z<|z6<|ad 24 Z (uo Z c1 Z)<|ad 25 Z (m9 Z)<|bJ<|zi<|zn (x:=.bool _) Z ?_
    exact jb (by simp_all)
   ·refine b5 14 Z Z Z c1<|b5 15 Z Z Z c1<|b5 16 Z Z Z c1<|b5 17 Z Z Z c1<|b5 18 Z Z Z c1<|b5 19 Z Z Z c1<|b5 20 Z Z Z c1<|b5 21 Z Z Z c1<|b5 22 Z Z Z c1<|b5 23 Z Z Z c1<|ad 24 Z (si Z c1 Z)<|ad 25 Z (m9 Z)<|bJ<|zi<|zn (x:=.bool _) Z ?_
    exact jb (by simp_all)
  ·rw[if_neg (show ¬x.op=18 from c18)]
   refine ai<|ao Z Z<|ab Z<|z6<|zt Z (fun c19=>?_) (fun c19=>?_)
   ·rw[if_pos (show x.op=19 from c19)]
    unfold Fh
    rcases hm:dz f (bj x) with _|y
    ·refine ai<|za (fe Z)<|aa Z<|zg (hM hm) Z<|za (kw Z)<|za (qa (v:=.agg _) Z Z)<|za (jO Z Z)<|y6 (cs:=[.int .i64 0,.int .i64 0,.raw (.slice none 0 0),.int .i64 0]) Zf Z Z<|fun i6=>y1 jx Z Z Z Z Z Z .head Z<|ze (yc (t:=6) Z .head)<|ab Z<|z6<|zd<|zr (fun j=>false) (by kernel_rfl) Z (zj (.rest _))<|ad 0 Z (nT Z)<|ad 1 Z (nT Z)<|b5 2 Z Z Z Z<|b5 3 Z Z Z Z<|b5 4 Z Z Z Z<|ad 5 Z (si Z Z Z)<|ad 6 Z (nT Z)<|cO 7 Z Z Z Z (fe Z)<|cO 8 Z Z Z Z (yk Z)<|cO 9 Z Z Z Z (bM j8 Z Z7 Z Z)<|cO 10 Z Z Z Z (yv (c:=.pf _) Zg Z)<|cO 11 Z Z Z Z (fe Z)<|cO 12 Z Z Z Z (yk Z)<|cO 13 Z Z Z Z (bM j8 Z wz Z Z)<|cO 14 Z Z Z Z (cR j6 Z)<|cO 15 Z Z Z Z (cD Z)<|aQ 16 Z<|z8 Z Z Z<|zg (flw _ _ (-1) nn a0.1) Z<|z6<|ad 17 Z (si Z Z Z)<|ad 18 Z (m9 Z)<|bJ<|zi<|zn (x:=.bool _) Z ?_
     exact jb (by simp_all)
    ·refine ai<|za (fe Z)<|aa Z<|zg (hM2 y hm) Z<|za (kw Z)<|za (qa (v:=.agg _) Z Z)<|za (jO Z Z)<|y6 (cs:=[.int .i64 0,.int .i64 0,.raw (.slice none 0 0),.int .i64 0]) Zf Z Z<|fun i6=>y1 jx Z Z Z Z Z Z .head Z<|ze (yc (t:=6) Z .head)<|ab Z<|z6<|zd<|zr (fun j=>false) (by kernel_rfl) Z (zj (.rest _))<|ad 0 Z (nT Z)<|ad 1 Z (nT Z)<|cO 2 Z Z Z Z (bM j5 Z Z2 Z Z)<|cO 3 Z Z Z Z (cR Z3 Z)<|cO 4 Z Z Z Z (Gv.eqlI Z Z)<|ad 5 Z (uo Z Z Z)<|ad 6 Z (nT Z)<|ql (s:=61) Z (fun c2=>?_) (fun c2=>?_)
     ·refine b5 7 Z Z Z c2<|b5 8 Z Z Z c2<|b5 9 Z Z Z c2<|b5 10 Z Z Z c2<|b5 11 Z Z Z c2<|b5 12 Z Z Z c2<|b5 13 Z Z Z c2<|b5 14 Z Z Z c2<|b5 15 Z Z Z c2<|b5 16 Z Z Z c2<|ad 17 Z (uo Z c2 Z)<|ad 18 Z (m9 Z)<|bJ<|zi<|zn (x:=.bool _) Z ?_
      exact jb (by simp_all)
     ·refine cO 7 Z Z Z c2 (fe Z)<|cO 8 Z Z Z c2 (yk Z)<|cO 9 Z Z Z c2 (bM j8 Z Z7 Z Z)<|cO 10 Z Z Z c2 (yv (c:=.pf _) Zg Z)<|cO 11 Z Z Z c2 (fe Z)<|cO 12 Z Z Z c2 (yk Z)<|cO 13 Z Z Z c2 (bM j8 Z wz Z Z)<|cO 14 Z Z Z c2 (cR j6 Z)<|cO 15 Z Z Z c2 (cD Z)<|aQ 16 Z<|z8 Z Z c2<|zg (flw _ _ (-1) nn a0.1) Z<|z6<|ad 17 Z (si Z c2 Z)<|ad 18 Z (m9 Z)<|bJ<|zi<|zn (x:=.bool _) Z ?_
      exact jb (by simp_all)
   ·rw[if_neg (show ¬x.op=19 from c19)]
    refine ai<|ao Z Z<|ab Z<|z6<|zt Z (fun c20=>?_) (fun c20=>?_)
    ·rw[if_pos (show x.op=20 from c20)]
     refine zd<|zr (fun j=>false) (by kernel_rfl) Z (zj (.rest _))<|ad 0 Z (fe Z)<|ad 1 Z (yk Z)<|ad 2 Z (bM j8 Z Z7 Z Z)<|ad 3 Z (yv (c:=.pf _) Zg Z)<|ad 4 Z (fe Z)<|ad 5 Z (yk Z)<|ad 6 Z (bM j8 Z wz Z Z)<|ad 7 Z (cR j6 Z)<|ad 8 Z (cD Z)<|aQ 9 Z<|zg (flw _ _ (-1) nn a0.1) Z<|z6<|ad 10 Z (nT Z)<|ql (s:=85) Z (fun c3=>?_) (fun c3=>?_)
     ·refine b5 11 Z Z Z c3<|b5 12 Z Z Z c3<|b5 13 Z Z Z c3<|b5 14 Z Z Z c3<|b5 15 Z Z Z c3<|b5 16 Z Z Z c3<|b5 17 Z Z Z c3<|b5 18 Z Z Z c3<|b5 19 Z Z Z c3<|b5 20 Z Z Z c3<|ad 21 Z (uo Z c3 Z)<|ad 22 Z (m9 Z)<|bJ<|zi<|zn (x:=.bool _) Z ?_
      exact jb (by simp_all)
     ·refine cO 11 Z Z Z c3 (fe Z)<|cO 12 Z Z Z c3 (yk Z)<|cO 13 Z Z Z c3 (bM j8 Z Z7 Z Z)<|cO 14 Z Z Z c3 (yv (c:=.pf _) Zg Z)<|cO 15 Z Z Z c3 (cD Z)<|cO 16 Z Z Z c3 (fe Z)<|cO 17 Z Z Z c3 (yk Z)<|cO 18 Z Z Z c3 (bM j8 Z wz Z Z)<|cO 19 Z Z Z c3 (cR j6 Z)<|aQ 20 Z<|z8 Z Z c3<|zg (flw _ _ (-1) a0.1 nn) Z<|z6<|ad 21 Z (si Z c3 Z)<|ad 22 Z (m9 Z)<|bJ<|zi<|zn (x:=.bool _) Z ?_
      exact jb (by simp_all)
    ·rw[if_neg (show ¬x.op=20 from c20)]
     refine ai<|ao Z Z<|ab Z<|z6<|zt Z (fun c24=>?_) (fun c24=>?_)
     ·rw[if_pos (show x.op=24 from c24)]
      refine zd<|zr (fun j=>false) (by kernel_rfl) Z (zj (.rest _))<|ad 0 Z (fe Z)<|ad 1 Z (yk Z)<|ad 2 Z (bM j8 Z Z7 Z Z)<|ad 3 Z (yv (c:=.pf _) Zg Z)<|ad 4 Z (fe Z)<|ad 5 Z (yk Z)<|ad 6 Z (bM j8 Z wz Z Z)<|ad 7 Z (cR j6 Z)<|ad 8 Z (cD Z)<|aQ 9 Z<|zg (flw _ _ 0 nn a0.1) Z<|z6<|ad 10 Z (nT Z)<|ql (s:=109) Z (fun c4=>?_) (fun c4=>?_)
      ·refine cO 11 Z Z Z c4 (fe Z)<|cO 12 Z Z Z c4 (yk Z)<|cO 13 Z Z Z c4 (bM j8 Z Z7 Z Z)<|cO 14 Z Z Z c4 (yv (c:=.pf _) Zg Z)<|cO 15 Z Z Z c4 (cD Z)<|cO 16 Z Z Z c4 (fe Z)<|cO 17 Z Z Z c4 (yk Z)<|cO 18 Z Z Z c4 (bM j8 Z wz Z Z)<|cO 19 Z Z Z c4 (cR j6 Z)<|aQ 20 Z<|z8 Z Z c4<|zg (flw _ _ 64 a0.1 nn) Z<|z6<|ad 21 Z (uo Z c4 Z)<|ad 22 Z (m9 Z)<|bJ<|zi<|zn (x:=.bool _) Z ?_
       exact jb (by simp_all)
      ·refine b5 11 Z Z Z c4<|b5 12 Z Z Z c4<|b5 13 Z Z Z c4<|b5 14 Z Z Z c4<|b5 15 Z Z Z c4<|b5 16 Z Z Z c4<|b5 17 Z Z Z c4<|b5 18 Z Z Z c4<|b5 19 Z Z Z c4<|b5 20 Z Z Z c4<|ad 21 Z (si Z c4 Z)<|ad 22 Z (m9 Z)<|bJ<|zi<|zn (x:=.bool _) Z ?_
       exact jb (by simp_all)
     ·rw[if_neg (show ¬x.op=24 from c24)]
      obtain ⟨k,hk,e⟩:∃k:Nat,k≤2∧x.op=21+(k:Int):=⟨(x.op - 21).toNat,by omega,by omega⟩
      have h1:aV f (bY x)∧1<x.args.length:=by
       have:k=0∨k=1∨k=2:=by omega
       rcases this with rfl|rfl|rfl
       ·exact a1 e (by decide)
       ·exact a1 e (by decide)
       ·exact a1 e (by decide)
      rw[show (x.op - 21).toNat=k by omega]
      refine zh<|ai<|za (fe Z)<|ae Y0 jx Z Z<|zg (hwi h1.2 h1.1 k hk (.inr e)) Z<|ab Z<|z6<|zi<|zn (x:=.bool _) Z ?_
      rfl
end
end Go.Proofs.YtdilpodccjlkgaaGreatDoor
namespace Go.Proofs.YtdilpodccjlkgaaGreatDoor
open Go.Proofs.Tryz
open Go.Proofs Go.Lib Go.Shelf Go.RowKit
theorem H4:dE prog 180 #[(0,1),(1,1),(2,1)] [.int .i64 0,.int .i64 0,.int .i64 0]:=⟨_,_,Xb,zeroValue180,fun w=>by kernel_rfl,rfl⟩
theorem Fp:df prog 134 180 1 3 [.int .i64 0,.int .i64 0,.int .i64 0]:=⟨_,X3,sizeOf180,zeroValue180,by decide,by decide,by kernel_rfl⟩
theorem H5:dE prog 136 #[(0,1),(1,1),(2,1)] [.int .i64 0,.raw (.slice none 0 0),.raw (.slice none 0 0)]:=⟨_,_,Zn,zeroValue136,fun w=>by kernel_rfl,rfl⟩
variable {E:World}
set_option maxRecDepth 20000
def ml (l:List fH) (a b c:Int):List fH:=if -bN≤c∧c≤bN∧l.length<8192 then l++[⟨a,b,c⟩] else l
def rA (js jl jm n:Nat) (l:List fH) (M:List Int):OL:=[(js,.cells 136 [.int .i64 n,.own jl l.length,.own jm M.length]),(jl,.grow 3 180 (l.map b8).flatten),(jm,.grow 1 3 (cI M))]
theorem Ad (r:List fH):(r.map b8).flatten.length=r.length*3:=by
 induction r with
 |nil=>rfl
 |cons o r ih=>rw[List.map_cons,List.flatten_cons,qz,ih,List.length_cons];show 3+_=_;omega
theorem tQ {c:Int} {l:List fH} {u:Bool} (h:u=(decide (c < -1152921504606846976)||(decide (1152921504606846976<c)||decide (8192≤(l.length:Int))))):u=!decide (-bN≤c∧c≤bN∧l.length<8192):=by
 rw[h,w3]
 unfold bN
 simp
 omega
theorem nH (js jl jm n:Nat) (l:List fH) (M:List Int) {a b:Int} (ha:oL n a) (hb:oL n b) (c:Int) (hll:l.length≤8192) :
  aZ prog E 66 [.po js 0,.int .i64 a,.int .i64 b,.int .i64 c] (rA js jl jm n l M) (fun y O=>∃g:Nat × Bool,y=.bool g.2∧O=rA js g.1 jm n (ml l a b c) M∧True):=by
 refine q9 (γ:=Nat × Bool) (x:=fun g=>.bool g.2) (M:=fun g=>rA js g.1 jm n (ml l a b c) M) (p:=fun _=>True) ?_
 have ha2:=ha
 have hb2:=hb
 unfold oL at ha2 hb2
 have hsa:=fun z y=>lw (E:=E) n z y a
 rw[w8 (show 0≤a∧a<n from ha2)] at hsa
 have hsb:=fun z y=>lw (E:=E) n z y b
 rw[w8 (show 0≤b∧b<n from hb2)] at hsb
 have hla:=fun z y=>aZ.lendP (E:=E) (i:=js) (T:=136) (fun _ _ _ h=>iR h) (hsa z y)
 have hlb:=fun z y=>aZ.lendP (E:=E) (i:=js) (T:=136) (fun _ _ _ h=>iR h) (hsb z y)
 unfold rA
 refine zp func66 Z (by decide) Z<|ai<|ab Z<|z6<|zd<|zd<|ye (γ:=Bool) [0,1,2,3] (fun u=>[(34,.bool u)]) (fun u=>[(js,.cells 136 [.int .i64 n,.own jl l.length,.own jm M.length]),(jl,.grow 3 180 (l.map b8).flatten),(jm,.grow 1 3 (cI M))]) (fun u=>u=!decide (-bN≤c∧c≤bN∧l.length<8192)) ?_ (fun _ _ h=>h) ?_
 ·refine aT<|aJ Z<|aa Z<|zu Z (zj (.l (.r (.r (.rest _))))) (hla (.own jl l.length) (.own jm M.length)) ?_
  rintro r11 O11 ⟨rfl,rfl⟩
  refine aD Z<|aj Z<|z8 Z Z Z<|aJ Z<|z8 Z Z Z<|aa Z<|z8 Z Z Z<|zu Z (zj (.l (.r (.r (.rest _))))) (hlb (.own jl l.length) (.own jm M.length)) ?_
  rintro r16 O16 ⟨rfl,rfl⟩
  refine z8 Z Z Z<|aD Z<|ay Z Z Z<|aj Z<|zq (s:=19) Z (fun c1=>?_) (fun c1=>?_)
  ·refine z7 Z Z c1<|z7 Z Z c1<|aw Z c1 Z<|aj Z<|z7 Z Z Z<|z7 Z Z Z<|aw Z Z Z<|aj Z<|z7 Z Z Z<|z7 Z Z Z<|z7 Z Z Z<|z7 Z Z Z<|z7 Z Z Z<|z7 Z Z Z<|aw Z Z Z<|z6 ?_
   exact ⟨_,gn,aK,aH,tQ (by rw[w3];simp_all<;>omega)⟩
  ·refine z8 Z Z c1<|aa Z<|z8 Z Z c1<|ax Z Z<|ay Z c1 Z<|aj Z<|zq (s:=23) Z (fun c2=>?_) (fun c2=>?_)
   ·refine z7 Z Z c2<|z7 Z Z c2<|aw Z c2 Z<|aj Z<|z7 Z Z Z<|z7 Z Z Z<|z7 Z Z Z<|z7 Z Z Z<|z7 Z Z Z<|z7 Z Z Z<|aw Z Z Z<|z6 ?_
    exact ⟨_,gn,aK,aH,tQ (by rw[w3];simp_all<;>omega)⟩
   ·refine z8 Z Z c2<|aa Z<|z8 Z Z c2<|aY Z Z<|ay Z c2 Z<|aj Z<|zq (s:=27) Z (fun c3=>?_) (fun c3=>?_)
    ·refine z7 Z Z c3<|z7 Z Z c3<|z7 Z Z c3<|z7 Z Z c3<|z7 Z Z c3<|z7 Z Z c3<|aw Z c3 Z<|z6 ?_
     exact ⟨_,gn,aK,aH,tQ (by rw[w3];simp_all<;>omega)⟩
    ·refine z8 Z Z c3<|aJ Z<|z8 Z Z c3<|aq Z<|z8 Z Z c3<|za (zf Zn Z Xf (by decide) Z Z)<|z8 Z Z c3<|za (zo (c:=.own _ _) isAgg134 Z ⟨_,.head⟩ Z)<|z8 Z Z c3<|za (qo X3 Z)<|z8 Z Z c3<|za (q5 Z Z)<|ay Z c3 Z<|z6 ?_
     exact ⟨_,gn,aK,aH,tQ (by rw[w3];simp_all<;>omega)⟩
 ·rintro u hu
  refine zy Z (fun cu=>?_) (fun cu=>?_)
  ·have hn:¬(-bN≤c∧c≤bN∧l.length<8192):=fun hq=>by rw[hu,w8 hq] at cu;cases cu
   have hL:ml l a b c=l:=by unfold ml;rw[if_neg hn]
   refine ai<|ab Z<|z6<|zi<|zn (x:=.bool _) Z ?_
   exact ⟨(jl,false),rfl,⟨_,.refl _,by rw[hL]⟩,trivial⟩
  ·have hy:-bN≤c∧c≤bN∧l.length<8192:=Classical.byContradiction fun hq=>by rw[hu,w9 hq] at cu;simp at cu
   have hL:ml l a b c=l++[⟨a,b,c⟩]:=by unfold ml;rw[if_pos hy]
   refine zh<|ai<|aJ Z<|aJ Z<|aq Z<|za (zf Zn Z Xf (by decide) Z Z)<|za (zo (c:=.own _ _) isAgg134 Z ⟨_,.head⟩ Z)<|aa Z<|aa Z<|aa Z<|za (y4 (cps:=[(0,[_]),(1,[_]),(2,[_])]) (rs:=[_,_,_]) H4 Z Z Z)<|y3 (rows:=[[_,_,_]]) Fp Z Z Z Z Z<|yq (k:=3) X3 type180 Z Z Z Z Z (fun _=>.t1) (Ad l) (by decide) Z (by show (_+_)*24≤_;simp<;>omega) (by simp<;>omega)<|fun i45=>aq Z<|za (zf Zn Z Xf (by decide) Z Z)<|yp (l:=[_]) (new:=[_,_,_]) Xf Z Z Z Z Z Z .head Z Z<|z6<|ai<|ab Z<|z6<|zi<|zn (x:=.bool _) Z ?_
   exact ⟨(i45,true),rfl,⟨_,.refl _,by rw[hL,w5,List.flatten_append,qz];rfl⟩,trivial⟩
theorem xS (js jl jm n:Nat) (l:List fH) (M:List Int) (hll:l.length≤10000) (hm:M.length≤1000) :
  aZ prog E 68 [.po js 0] (rA js jl jm n l M) (fun y O=>∃g:Nat,y=.tup []∧O=rA js jl g n l (M++[(l.length:Int)])∧True):=by
 refine q9 (γ:=Nat) (x:=fun g=>.tup []) (M:=fun g=>rA js jl g n l (M++[(l.length:Int)])) (p:=fun _=>True) ?_
 unfold rA
 refine zp func68 Z (by decide) Z<|ai<|aJ Z<|za (Gv.neqPo underlying71 type136 Z)<|z6<|yu Z Z<|zr (fun j=>Nat.beq j 14) (by kernel_rfl) Z (zj (.r (.rest _)))<|ad 0 Z (cP Z)<|ad 1 Z (cP Z)<|ad 2 Z (zw Z)<|ad 3 Z (zf Zn Z j7 (by decide) Z Z)<|ad 4 Z (zo (c:=.own _ _) je Z ⟨_,.head⟩ Z)<|ad 5 Z (cP Z)<|ad 6 Z (zw Z)<|ad 7 Z (zf Zn Z Xf (by decide) Z Z)<|ad 8 Z (zo (c:=.own _ _) isAgg134 Z ⟨_,.head⟩ Z)<|ad 9 Z (qo X3 Z)<|aQ 10 Z<|y3 (rows:=[[_]]) cF Z Z Z Z Z<|z6<|aQ 11 Z<|yq (k:=1) wy Zz Z Z Z Z Z (fun _=>.t1) (by simp[cI]) (by decide) Z (by show (_+_)*8≤_;simp<;>omega) (by simp<;>omega)<|fun i15=>z6<|yo (i:=12) Z (by kernel_rfl) (by kernel_rfl) (by kernel_rfl) (by kernel_rfl) (zw Z)<|ad 13 Z (zf Zn Z j7 (by decide) Z Z)<|yf<|yi (i:=14) Z (by kernel_rfl) (by kernel_rfl)<|yp (l:=[_]) (new:=[_,_,_]) j7 Z Z Z Z Z Z .head Z Z<|z6<|ym (by kernel_rfl)<|yl ?_
 exact ⟨i15,rfl,⟨_,.refl _,by rw[qz,←l6];rfl⟩,trivial⟩
theorem vS (js jl jm n:Nat) (l:List fH) (M:List Int) :
  aZ prog E 121 [.po js 0] (rA js jl jm n l M) (fun y O=>y=.int .i64 M.length∧O=rA js jl jm n l M):=by
 unfold rA
 refine zp func121 Z (by decide) Z<|ai<|ak Z<|z6<|zd<|ai<|aJ Z<|za (Gv.eqlPo underlying71 type136 Z)<|z6<|yg Z Z<|zh<|ai<|aJ Z<|aq Z<|za (zf Zn Z j7 (by decide) Z Z)<|za (zo (c:=.own _ _) je Z ⟨_,.head⟩ Z)<|za (qo wy Z)<|ak Z<|z6<|zi<|zn (x:=.int _ _) Z ?_
 exact ⟨rfl,rfl⟩
theorem Fq (l:List fH) (m:Nat):(l.map b8).flatten.take (m*3)=((l.take m).map b8).flatten:=by
 induction l generalizing m with
 |nil=>simp
 |cons q l ih=>
  cases m with
  |zero=>simp
  |succ m=>
   rw[List.map_cons,List.flatten_cons,List.take_succ_cons,List.map_cons,List.flatten_cons,←ih m,List.take_append]
   have e:(b8 q).length=3:=rfl
   rw[List.take_of_length_le (by rw[e];omega),e,show (m+1)*3 - 3=m*3 by omega]
theorem Fr (M:List Int) (x:Int):(cI (M++[x])).take (M.length*1)=cI M:=by
 rw[←l6,Nat.mul_one,List.take_append_of_le_length (by rw[aE];omega),List.take_of_length_le (by rw[aE];omega)]
theorem DF {α:Type} (M:List α) (x:α):(M++[x])[M.length]?=some x:=by simp
theorem BL (js jl jm n:Nat) (l:List fH) (M:List Int) (m:Nat) (hm:m≤l.length) (hM:M.length≤1000) :
  aZ prog E 75 [.po js 0] (rA js jl jm n l (M++[(m:Int)])) (fun y O=>y=.bool true∧O=rA js jl jm n (l.take m) M):=by
 have hd:=vS (E:=E) js jl jm n l (M++[(m:Int)])
 have hl1:(M++[(m:Int)]).length=M.length+1:=by simp
 unfold rA at hd ⊢
 refine zp func75 Z (by decide) Z<|ai<|ab Z<|z6<|zd<|ai<|aJ Z<|zu Z (zj (.l (.l (.l (.rest _))))) (hd) ?_
 rintro r5 O5 ⟨rfl,rfl⟩
 refine ao Z Z<|z6<|yg Z (by rw[w9 (by simp;omega)])<|zh<|ai<|aJ Z<|aq Z<|za (zf Zn Z j7 (by decide) Z Z)<|za (zo (c:=.own _ _) je Z ⟨_,.head⟩ Z)<|za (qo wy Z)<|za (Gv.sub Z Z (by unfold kJ;omega))<|ak Z<|z6<|zd<|zr (fun j=>Nat.beq j 15) (by kernel_rfl) Z (zj (.r (.rest _)))<|ad 0 Z (cP Z)<|ad 1 Z (cP Z)<|ad 2 Z (zw Z)<|ad 3 Z (zf Zn Z Xf (by decide) Z Z)<|ad 4 Z (zo (c:=.own _ _) isAgg134 Z ⟨_,.head⟩ Z)<|ad 5 Z (cP Z)<|ad 6 Z (zw Z)<|ad 7 Z (zf Zn Z j7 (by decide) Z Z)<|ad 8 Z (zo (c:=.own _ _) je Z ⟨_,.head⟩ Z)<|ad 9 Z (cD Z)<|aQ 10 Z<|za (yj (j:=M.length) wy wz Z Z (by simp) ⟨_,.t1⟩ (by simp[cI]) (by simp))<|z6<|aQ 11 Z<|za (yz (j:=M.length) j6 Z ⟨_,.t1⟩ (DF M (m:Int)))<|z6<|aQ 12 Z<|az.cutTo (j:=m) X3 sizeOf180 Z Z Z .head (by decide) (by rw[Ad];omega)<|z6<|yo (i:=13) Z (by kernel_rfl) (by kernel_rfl) (by kernel_rfl) (by kernel_rfl) (zw Z)<|ad 14 Z (zf Zn Z Xf (by decide) Z Z)<|yf<|yi (i:=15) Z (by kernel_rfl) (by kernel_rfl)<|yp (l:=[_]) (new:=[_,_,_]) Xf Z Z Z Z Z Z .head Z Z<|z6<|ym (by kernel_rfl) ?_
 refine ai<|aJ Z<|aJ Z<|aq Z<|za (zf Zn Z j7 (by decide) Z Z)<|za (zo (c:=.own _ _) je Z ⟨_,.head⟩ Z)<|aa Z<|az.cutTo (j:=M.length) wy wz Z Z (by simp) .t2 (by decide) (by simp[cI])<|aq Z<|za (zf Zn Z j7 (by decide) Z Z)<|yp (l:=[_]) (new:=[_,_,_]) j7 Z Z Z Z Z Z .head Z Z<|z6<|ai<|ab Z<|z6<|zi<|zn (x:=.bool _) Z ?_
 exact ⟨rfl,by rw[Fq,Fr,w7,Nat.min_eq_left hm];rfl⟩
theorem BM (n:Nat) (hn:n≤1024):aZ prog E 36 [.int .i64 n] [] (fun y O=>∃g:Nat × Nat × Nat,y=.po g.1 0∧O=rA g.1 g.2.1 g.2.2 n [] []∧True):=by
 refine q9 (γ:=Nat × Nat × Nat) (x:=fun g=>.po g.1 0) (M:=fun g=>rA g.1 g.2.1 g.2.2 n [] []) (p:=fun _=>True) ?_
 unfold rA
 refine zp func36 Z (by decide) Z<|ai<|za (jK Z)<|z6<|zd<|zd<|ye (γ:=Bool) [0] (fun u=>[(8,.bool u)]) (fun u=>[]) (fun u=>u=false) ?_ (fun _ _ h=>h) ?_
 ·refine aT<|aa Z<|ax Z Z<|aj Z<|zq (s:=5) Z (fun c4=>?_) (fun c4=>?_)
  ·refine z7 Z Z c4<|z7 Z Z c4<|aw Z c4 Z<|z6 ?_
   exact ⟨_,aK,aK,aH,by simp_all<;>omega⟩
  ·refine z8 Z Z c4<|aa Z<|z8 Z Z c4<|aY Z Z<|ay Z c4 Z<|z6 ?_
   exact ⟨_,aK,aK,aH,by simp_all<;>omega⟩
 ·rintro u hu
  subst hu
  refine yg Z Z<|zh<|ai<|aa Z<|za (y4 (cps:=[(0,[_])]) (rs:=[_,.raw (.slice none 0 0),.raw (.slice none 0 0)]) H5 Z Z Z)<|yn (cs:=_) Z Z Z Z<|fun i11=>za (fZ Z)<|z6<|gP (off:=1) (k:=3) (T:=180) (fun _=>.head) Z<|fun jl=>gP (off:=2) (k:=1) (T:=3) (fun _=>.t1) Z<|fun jm=>zz (zb (zc .head))<|zz (zb (zc .t1))<|zz (zb (zc .t2))<|zi<|zn (x:=.po _ _) Z ?_
  exact ⟨(i11,jl,jm),rfl,⟨_,.refl _,rfl⟩,trivial⟩
end Go.Proofs.YtdilpodccjlkgaaGreatDoor
namespace Go.Proofs.YtdilpodccjlkgaaGreatDoor
open Go.Proofs.Tryz
open Go.Proofs Go.Lib Go.Shelf Go.RowKit
variable {E:World}
set_option maxRecDepth 20000
def Fs (f0 f1 f2 t m pr:AV) (js:Nat) (q:Int) (a8 a9 a10:AV):List AV:=[f0,f1,f2,t,m,pr,.po js 0,.int .i64 q,a8,a9,a10]
def Ft (iw js jl jm n:Nat) (cs:List AV) (l:List fH) (M:List Int):OL:=(iw,.cells 75 cs)::rA js jl jm n l M
theorem DG {l:List fH} {a b c:Int} (h:l.length≤8192):(ml l a b c).length≤8192:=by
 unfold ml
 split
 ·rw[qz];simp;omega
 ·exact h
theorem xT (f0 f1 f2 t m pr a8 a9 a10:AV) (iw js jl jm n:Nat) (q:Int) (l:List fH) (M:List Int) (hll:l.length≤8192) {a b:Int} (ha:oL n a) (hb:oL n b) :
  aZ prog E 67 [.po iw 0,.int .i64 a,.int .i64 b] (Ft iw js jl jm n (Fs f0 f1 f2 t m pr js q a8 a9 a10) l M) (fun y O=>∃g:Nat,y=.tup []∧O=Ft iw js g jm n (Fs f0 f1 f2 t m pr js q a8 a9 a10) (ml (ml l a b 0) b a 0) M∧True):=by
 refine q9 (γ:=Nat) (x:=fun g=>.tup []) (M:=fun g=>Ft iw js g jm n (Fs f0 f1 f2 t m pr js q a8 a9 a10) (ml (ml l a b 0) b a 0) M) (p:=fun _=>True) ?_
 have h1:=nH (E:=E) js jl jm n l M ha hb 0 hll
 have h2:=fun jl=>nH (E:=E) js jl jm n (ml l a b 0) M hb ha 0 (DG hll)
 unfold Ft Fs
 unfold rA at h1 h2 ⊢
 refine zp func67 Z (by decide) Z<|ai<|aJ Z<|aq Z<|za (zf j8 Z Z7 (by decide) Z Z)<|za (zo (c:=.po _ _) Zg Z ⟨_,.head⟩ Z)<|aa Z<|aa Z<|zu Z (zj (.r (.l (.l (.l (.rest _)))))) (h1) ?_
 rintro r12 O12 ⟨⟨j1,u1⟩,rfl,rfl,_⟩
 refine z6<|aT<|aJ Z<|aq Z<|za (zf j8 Z Z7 (by decide) Z Z)<|za (zo (c:=.po _ _) Zg Z ⟨_,.t3⟩ Z)<|aa Z<|aa Z<|zu Z (zj (.l (.l (.l (.r (.rest _)))))) (h2 j1) ?_
 rintro r19 O19 ⟨⟨j2,u2⟩,rfl,rfl,_⟩
 refine z6<|y8 (zb (zc .t2))<|y8 (zb (zc .t2))<|y8 (zb (zc .t2))<|y8 (zb (zc .t3))<|yl ?_
 exact ⟨j2,rfl,⟨_,.refl _,rfl⟩,trivial⟩
end Go.Proofs.YtdilpodccjlkgaaGreatDoor
