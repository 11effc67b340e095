/- Facts on a stack, written: New, Push, Pop, Add. Of facts of nodes that there are. -/
import Derived.Test.YtdilpodccjlkgaaGreatDoorLa
import Derived.Test.YtdilpodccjlkgaaGreatDoorLm
import Derived.Test.YtdilpodccjlkgaaGreatDoorLc
import Derived.Test.YtdilpodccjlkgaaGreatDoorLi
import Derived.Test.YtdilpodccjlkgaaGreatDoorLd
import Derived.Test.YtdilpodccjlkgaaGreatDoorLf
set_option linter.unusedVariables false
set_option linter.unusedSimpArgs false
set_option linter.unusedSectionVars false
namespace Go.Proofs.YtdilpodccjlkgaaGreatDoor
open Go.Proofs.Tryz
structure KS where
 l:List fw
 p:List (Int × List Int)
def dQ (K:KS) (a b c:Int):KS:=if -bw≤c∧c≤bw∧K.l.length<8192 then ⟨K.l++[⟨a,b,c⟩],K.p⟩ else K
def addO (K:KS) (a b:Int) (o:Option Int):KS:=match o with|some c=>dQ K a b c|none=>K
def hU (K:KS) (a b:Int):KS:=dQ (dQ K a b 0) b a 0
section
variable (f:ad)
def eL (K:KS) (a b:Int):Option Int:=eX K.l (f.vars.length+1) a b
def et (K:KS) (a b c:Int):Bool:=p8 K.l (f.vars.length+1) a b c
def dX:Int:=f.vars.length
def zW (K:KS) (v:Int):Option e7:=match eL f K (dX f) v,eL f K v (dX f) with|some lo,some hi=>some (-lo,hi)|_,_=>none
def CB (k:Nat) (a b:e7):Bool:=decide (a.2<a.1∨b.2<b.1∨kB k a b)
def ri (K:KS) (k:Nat) (y z:Int):Bool:=match zW f K y,zW f K z with|some a,some b=>CB k a b|_,_=>false
def mT (K:KS) (op:Int) (l:List Int):Bool:=K.p.any fun q=>decide (q.1=op∧q.2=l)
def mU (K:KS) (v:Int):Bool:=et f K (dX f) v 0
def mV (K:KS) (x:aB):KS:=
 if mT K (x.op+19) x.args=false∧ri f K (x.op - 2).toNat (bB x) (cK x)=false then K
 else if x.op=3 then addO (addO K x.dst (bB x) (eL f K (dX f) (cK x))) (bB x) x.dst (eL f K (cK x) (dX f))
 else addO (addO (addO (addO K x.dst (bB x) (eL f K (cK x) (dX f))) (bB x) x.dst (eL f K (dX f) (cK x))) x.dst (cK x) (eL f K (bB x) (dX f))) (cK x) x.dst (eL f K (dX f) (bB x))
def eC (K:KS) (x:aB):KS:=if mU f K (bB x)=true∧(mU f K (cK x)=true∨x.op=6) then dQ (dQ K (dX f) x.dst 0) x.dst (bB x) 0 else K
def jP (K:KS) (x:aB):KS:=if mU f K (cK x)=true∧x.op=6 then dQ (eC f K x) x.dst (cK x) (-1) else eC f K x
def mA (K:KS) (x:aB):KS:=
 if x.op=0∧-bw≤x.num∧x.num≤bw then dQ (dQ K x.dst (dX f) x.num) (dX f) x.dst (-x.num)
 else if (x.op=1∧¬bj f x.dst=1)∨x.op=12∨x.op=15 then hU K x.dst (bB x)
 else if x.op=16 then hU K x.dst (dX f)
 else if x.op=2∨x.op=3 then mV f K x
 else if x.op=5∨x.op=6 then jP f K x
 else K
def kE (K:KS) (x:aB):KS:=
 if x.op=18 then dQ (dQ ⟨K.l,K.p++[(x.op,x.args)]⟩ (dX f) (cK x) 0) (cK x) (bB x) (-1)
 else if x.op=24 then dQ (dQ ⟨K.l,K.p++[(x.op,x.args)]⟩ (dX f) (bB x) 0) (bB x) (dX f) 64
 else if x.op=20 then
  if mU f K (bB x)=true then dQ ⟨K.l,K.p++[(x.op,x.args)]⟩ (dX f) (bB x) (-1)
  else if et f K (bB x) (dX f) 0=true then dQ ⟨K.l,K.p++[(x.op,x.args)]⟩ (bB x) (dX f) (-1)
  else ⟨K.l,K.p++[(x.op,x.args)]⟩
 else ⟨K.l,K.p++[(x.op,x.args)]⟩
def dP (K:KS) (x:aB):KS:=if 18≤x.op∧x.op≤24 then kE f K x else mA f K x
def cS (v:Int):Option aB:=if 0≤(aF f v).1∧0≤(aF f v).2 then (f.blocks[(aF f v).1.toNat]?).bind fun b=>b.insts[(aF f v).2.toNat]? else none
def Ee (v:Int):Bool:=match cS f v with|some y=>decide (y.op=15)|none=>false
def lB (K:KS) (x:aB):Bool:=mT K x.op x.args ||
 (if x.op=18 then et f K (dX f) (cK x) 0&&et f K (cK x) (bB x) (-1)
  else if x.op=19 then Ee f (bB x)||et f K (dX f) (bB x) (-1)
  else if x.op=20 then et f K (dX f) (bB x) (-1)||et f K (bB x) (dX f) (-1)
  else if x.op=24 then et f K (dX f) (bB x) 0&&et f K (bB x) (dX f) 64
  else ri f K (x.op - 21).toNat (bB x) (cK x))
structure xe where
 a:Int
 b:Int
 n:Int
def gz (K:KS) (r:xe):KS:=if r.n=0 then dQ K r.a r.b (-1) else if r.n=1 then dQ K r.a r.b 0 else if r.n=2 then hU K r.a r.b else K
end
section
variable {u:Int→Int}
end
end Go.Proofs.YtdilpodccjlkgaaGreatDoor
namespace Go.Proofs.YtdilpodccjlkgaaGreatDoor
open Go.Proofs.Tryz
set_option linter.unusedSectionVars false
section
variable {l:List fw} {n:Nat} {b:Int} (hl:∀q∈l,xL n q) (hb:m0 n b)
include hb
end
end Go.Proofs.YtdilpodccjlkgaaGreatDoor
namespace Go.Proofs.YtdilpodccjlkgaaGreatDoor
open Go.Proofs.Tryz
structure PX (s:GS) (x:aB):Prop where
 ck:18≤x.op→x.op≤24→D8 s x.op x.args=true
 i0:x.op=0→vi s.ints x.dst=x.num
 i1:x.op=1→V s x.dst=V s (bB x)
 i2:x.op=2→vi s.ints x.dst=IntKind.i64.wrap (AR 0 (aG s x) (bG s x))
 i3:x.op=3→vi s.ints x.dst=IntKind.i64.wrap (AR 1 (aG s x) (bG s x))
 i5:x.op=5→bG s x≠0∧vi s.ints x.dst=ET (aG s x) (bG s x)
 i6:x.op=6→bG s x≠0∧vi s.ints x.dst=EU (aG s x) (bG s x)
 i7:x.op=7→gb s.bools x.dst=decide (aG s x=bG s x)
 i8:x.op=8→gb s.bools x.dst=decide (aG s x<bG s x)
 i9:x.op=9→gb s.bools x.dst=decide (aG s x≤bG s x)
 i10:x.op=10→gb s.bools x.dst=!pG s x
 i11:x.op=11→gb s.bools x.dst=(pG s x&&qG s x)
 i12:x.op=12→0≤rG s x∧vi s.ints x.dst=(Da s (rG s x)).length
 i15:x.op=15→0≤vi s.arrs x.dst∧((Da s (vi s.arrs x.dst)).length:Int)=aG s x
 i16:x.op=16→vi s.arrs x.dst=-1
theorem cW.cnt {f:ad} {x:aB} {k:Int} (h:cW f x) (e:x.op=k):x.args.length=([0,1,2,2,2,2,2,2,2,2,1,2,1,2,3,1,0,1,2,1,1,2,2,2,1,2,2][k.toNat]?).getD 0:=e▸h.argc
section
variable {f:ad} {s t:GS} {x:aB}
theorem cW.d {k:Int} (hF:cW f x) (e:x.op=k) (hm:([true,true,true,true,true,true,true,true,true,true,true,true,true,true,false,true,true,false,false,false,false,false,false,false,false,true,true][k.toNat]?).getD false=true):x.dst<f.vars.length∧0≤x.dst:=hF.made (e▸hm)
end
end Go.Proofs.YtdilpodccjlkgaaGreatDoor
namespace Go.Proofs.YtdilpodccjlkgaaGreatDoor
open Go.Proofs.Tryz
section
variable {f:ad} {s:GS} {K:KS}
end
section
variable {f:ad} {x:aB}
end
section
variable {f:ad} {s:GS} {K:KS} {x:aB}
end
end Go.Proofs.YtdilpodccjlkgaaGreatDoor
namespace Go.Proofs.YtdilpodccjlkgaaGreatDoor
open Go.Proofs.Tryz
structure ky where
 seen:List (Int × Bool)
 out:List xe
def eW (q:ky) (a b n:Int):ky:=if a=b then q else ⟨q.seen,q.out++[⟨a,b,n⟩]⟩
section
variable (f:ad)
def kz:Nat→ky→Int→Bool→ky
 |0,q,_,_=>q
 |n+1,q,c,is=>if q.seen.contains (c,is)=true then q else
  match cS f c with
  |none=>⟨q.seen++[(c,is)],q.out⟩
  |some x=>
   if x.op=10 then kz n ⟨q.seen++[(c,is)],q.out⟩ (bB x) (!is)
   else if x.op=1 then kz n ⟨q.seen++[(c,is)],q.out⟩ (bB x) is
   else if x.op=11 then (if is=true then kz n (kz n ⟨q.seen++[(c,is)],q.out⟩ (bB x) true) (cK x) true else ⟨q.seen++[(c,is)],q.out⟩)
   else if x.op=8 then (if is=true then eW ⟨q.seen++[(c,is)],q.out⟩ (bB x) (cK x) 0 else eW ⟨q.seen++[(c,is)],q.out⟩ (cK x) (bB x) 1)
   else if x.op=9 then (if is=true then eW ⟨q.seen++[(c,is)],q.out⟩ (bB x) (cK x) 1 else eW ⟨q.seen++[(c,is)],q.out⟩ (cK x) (bB x) 0)
   else if x.op=7 then (if is=true then eW ⟨q.seen++[(c,is)],q.out⟩ (bB x) (cK x) 2 else ⟨q.seen++[(c,is)],q.out⟩)
   else ⟨q.seen++[(c,is)],q.out⟩
def jQ (c:Int) (is:Bool):List xe:=(kz f 100000 ⟨[],[]⟩ c is).out
def De (i:Int):List xe:=match ba (ae f) f.blocks.length i with
 |[p]=>if (iC f p).term.kind=1∧(iC f p).term.to0≠(iC f p).term.to1 then jQ f (iC f p).term.var (decide ((iC f p).term.to0=i)) else[]
 |_=>[]
def gG (p q:Bool):Int:=if p=true then 1 else if q=true then 2 else 0
def fF (K:KS):Nat→Int→Int
 |0,_=>0
 |n+1,v=>match cS f v with
  |none=>0
  |some x=>
   if x.op=8 then gG (et f K (bB x) (cK x) (-1)) (et f K (cK x) (bB x) 0)
   else if x.op=9 then gG (et f K (bB x) (cK x) 0) (et f K (cK x) (bB x) (-1))
   else if x.op=7 then gG (et f K (bB x) (cK x) 0&&et f K (cK x) (bB x) 0) (et f K (bB x) (cK x) (-1)||et f K (cK x) (bB x) (-1))
   else if x.op=1 then fF K n (bB x)
   else if x.op=10 then gG (decide (fF K n (bB x)=2)) (decide (fF K n (bB x)=1))
   else if x.op=11 then gG (decide (fF K n (bB x)=1)&&decide (fF K n (cK x)=1)) (decide (fF K n (bB x)=2)||decide (fF K n (cK x)=2))
   else 0
def gA (K:KS) (v:Int):KS:=
 if bj f v=2 then dQ (dQ K v (dX f) 64) (dX f) v 0
 else if bj f v=0∧(f.params.length:Int)≤v∧(aF f v).1<0 then hU K v (dX f)
 else K
def dC:KS:=(bh f.vars.length).foldl (gA f) ⟨[],[]⟩
def mB (K:KS) (i:Int):KS:=(De f i).foldl gz K
def zX (K:KS) (i:Int):KS:=(iC f i).insts.foldl (dP f) K
def uF:List Int→KS
 |[]=>dC f
 |b::up=>zX f (mB f (uF up) b) b
def BM (b:Int):List Int:=df (bl (ae f) f.blocks.length) f.blocks.length b
def DI (b:Int) (k:Nat):KS:=((iC f b).insts.take k).foldl (dP f) (mB f (uF f (BM f b).tail) b)
end
def Ef (f:ad) (s:GS) (Good:Int→Prop):Prop:=∀v y,Good v→cS f v=some y→(PX s y∧cW f y∧gm f y=true∧y.dst=v)∧∀a∈y.args,Good a
section
variable {f:ad} {s:GS} {K:KS} {Good:Int→Prop} (hG:Ef f s Good)
theorem EW {x:aB} (hl:0<x.args.length):bB x∈x.args:=by unfold bB;rw[qi hl];exact qm hl
theorem EX {x:aB} (hl:1<x.args.length):cK x∈x.args:=by unfold cK;rw[qi hl];exact qm hl
end
end Go.Proofs.YtdilpodccjlkgaaGreatDoor
namespace Go.Proofs.YtdilpodccjlkgaaGreatDoor
open Go.Proofs.Tryz
structure b8 (f:ad):Prop where
 hT:∀b∈f.blocks,gt f b=true
 hS:bz f
 hE:bE f
 hs:sk f
 hO:Ed f
 run:D9 f
theorem gB {f:ad} {i:Nat} {b:aN} (h:f.blocks[i]?=some b):iC f (i:Int)=b:=by unfold iC;rw[Int.toNat_natCast,h];rfl
section
variable {f:ad} (hR:b8 f)
include hR
theorem b8.inF {i k:Nat} {x:aB} (h:Dd f i k x):cW f x∧gm f x=true:=by
 obtain ⟨b,hb,hx⟩:=h
 have hbm:=qs hb
 have hxm:=qs hx
 refine ⟨fK ((hR.hS.2.2.2.2.2 b hbm).2.1 x hxm),?_⟩
 have:=hR.hT b hbm
 unfold gt at this
 simp only[qx] at this
 exact List.all_eq_true.1 this.1.2 x hxm
theorem b8.av {i k:Nat} {x:aB} (h:Dd f i k x):∀v∈x.args,Av f i k v:=fun v hv=>by
 obtain ⟨b,hb,hx⟩:=h
 obtain ⟨hi,e⟩:=List.getElem?_eq_some_iff.1 hb
 obtain ⟨hk,e2⟩:=List.getElem?_eq_some_iff.1 hx
 have:=(hR.hs.2.2.2 i hi).2.1
 rw[e] at this
 exact this k hk v (by rw[e2];exact hv)
theorem b8.pred {c p:Int} (h:ba (ae f) f.blocks.length c=[p]):c∈ae f p∧∀q,c∈ae f q→q=p:=by
 have key:∀q,q∈ba (ae f) f.blocks.length c↔c∈ae f q:=fun q=>iu hR.hE.grph.toEOk (fun x hx=>kQ hx)
 refine ⟨(key p).1 (by rw[h];exact .head _),fun q hq=>?_⟩
 have:=(key q).2 hq
 rw[h] at this
 exact List.mem_singleton.1 this
end
end Go.Proofs.YtdilpodccjlkgaaGreatDoor
namespace Go.Proofs.YtdilpodccjlkgaaGreatDoor
open Go.Proofs.Tryz
section
variable {f:ad} (hR:b8 f)
include hR
end
end Go.Proofs.YtdilpodccjlkgaaGreatDoor
namespace Go.Proofs.YtdilpodccjlkgaaGreatDoor
open Go.Proofs.Tryz
theorem vK {f:ad} {v:Int} {y:aB} (h:cS f v=some y):∃j k:Nat,Dd f j k y∧y.dst=v∧aF f v=((j:Int),(k:Int)):=by
 unfold cS at h
 split at h
 ·rename_i h0
  obtain ⟨i,b,h1,h2,h3⟩:=dJ h0.1
  rcases h3 with ⟨_,_,_,h4⟩|⟨k,x,h4,h5,h6⟩
  ·omega
  ·rw[h2,h6,Int.toNat_natCast,Int.toNat_natCast,h1] at h
   have h:b.insts[k]?=some y:=h
   rw[h4] at h
   cases h
   exact ⟨i,k,⟨b,h1,h4⟩,h5,Prod.ext h2 h6⟩
 ·cases h
section
variable {f:ad} (hR:b8 f)
include hR
end
end Go.Proofs.YtdilpodccjlkgaaGreatDoor
namespace Go.Proofs.YtdilpodccjlkgaaGreatDoor
open Go.Proofs.Tryz
structure KB (f:ad) (K:KS):Prop where
 fac:∀q∈K.l,xL (f.vars.length+1) q∧(-bw≤q.c∧q.c≤bw)
 len:K.l.length≤8192
def aO (f:ad) (v:Int):Prop:=0≤v∧v≤f.vars.length
section
variable {f:ad} {K:KS}
theorem KB.emp (f:ad):KB f ⟨[],[]⟩:=⟨fun q hq=>(by cases hq),by decide⟩
theorem KB.pass (h:KB f K) (p:List (Int × List Int)):KB f ⟨K.l,p⟩:=⟨h.fac,h.len⟩
theorem fv:aO f (dX f):=by unfold aO dX;omega
theorem KB.add (h:KB f K) {a b c:Int} (ha:aO f a) (hb:aO f b):KB f (dQ K a b c):=by
 unfold dQ
 split
 ·rename_i hc
  refine ⟨fun q hq=>?_,by simp;omega⟩
  rcases List.mem_append.1 hq with hq|hq
  ·exact h.fac q hq
  ·rw[List.mem_singleton.1 hq]
   unfold aO at ha hb
   unfold xL m0
   dsimp only
   omega
 ·exact h
theorem KB.addO (h:KB f K) {a b:Int} {o:Option Int} (ha:aO f a) (hb:aO f b):KB f (addO K a b o):=by cases o with|none=>exact h|some c=>exact h.add ha hb
theorem KB.both (h:KB f K) {a b:Int} (ha:aO f a) (hb:aO f b):KB f (hU K a b):=(h.add ha hb).add hb ha
theorem bY {v:Int} (h:v<f.vars.length∧0≤v):aO f v:=⟨h.2,by omega⟩
theorem KB.stp (h:KB f K) {x:aB} (hF:cW f x):KB f (dP f K x):=by
 have a0:∀{k:Int},x.op=k→0<([0,1,2,2,2,2,2,2,2,2,1,2,1,2,3,1,0,1,2,1,1,2,2,2,1,2,2][k.toNat]?).getD 0→aO f (bB x):=fun e h=>bY (hF.a0 (by rw[hF.cnt e];exact h))
 have a1:∀{k:Int},x.op=k→1<([0,1,2,2,2,2,2,2,2,2,1,2,1,2,3,1,0,1,2,1,1,2,2,2,1,2,2][k.toNat]?).getD 0→aO f (cK x):=fun e h=>bY (hF.a1 (by rw[hF.cnt e];exact h))
 have nn:aO f (dX f):=fv
 unfold dP
 split
 ·unfold kE
  have hp:=h.pass (K.p++[(x.op,x.args)])
  split
  ·rename_i e;exact (hp.add nn (a1 e (by decide))).add (a1 e (by decide)) (a0 e (by decide))
  split
  ·rename_i _ e;exact (hp.add nn (a0 e (by decide))).add (a0 e (by decide)) nn
  split
  ·rename_i _ _ e
   split
   ·exact hp.add nn (a0 e (by decide))
   ·split
    ·exact hp.add (a0 e (by decide)) nn
    ·exact hp
  ·exact hp
 ·unfold mA
  split
  ·rename_i e
   have hd:=bY (hF.d e.1 rfl)
   exact (h.add hd nn).add nn hd
  split
  ·rename_i _ e
   rcases e with e|e|e
   ·exact h.both (bY (hF.d e.1 rfl)) (a0 e.1 (by decide))
   ·exact h.both (bY (hF.d e rfl)) (a0 e (by decide))
   ·exact h.both (bY (hF.d e rfl)) (a0 e (by decide))
  split
  ·rename_i e;exact h.both (bY (hF.d e rfl)) nn
  split
  ·rename_i e
   have hd:aO f x.dst:=by rcases e with e|e<;>exact bY (hF.d e rfl)
   have h0:aO f (bB x):=by rcases e with e|e<;>exact a0 e (by decide)
   have h1:aO f (cK x):=by rcases e with e|e<;>exact a1 e (by decide)
   unfold mV
   split
   ·exact h
   ·split
    ·exact (h.addO hd h0).addO h0 hd
    ·exact (((h.addO hd h0).addO h0 hd).addO hd h1).addO h1 hd
  split
  ·rename_i e
   have hd:aO f x.dst:=by rcases e with e|e<;>exact bY (hF.d e rfl)
   have h0:aO f (bB x):=by rcases e with e|e<;>exact a0 e (by decide)
   have h1:aO f (cK x):=by rcases e with e|e<;>exact a1 e (by decide)
   have hA:KB f (eC f K x):=by
    unfold eC
    split
    ·exact (h.add nn hd).add hd h0
    ·exact h
   unfold jP
   split
   ·exact hA.add hd h1
   ·exact hA
  ·exact h
theorem KB.stps:∀(l:List aB) (K:KS),KB f K→(∀x∈l,cW f x)→KB f (l.foldl (dP f) K)
 |[],_,h,_=>h
 |x::l,_,h,hl=>KB.stps l _ (h.stp (hl x (.head _))) fun q hq=>hl q (.tail _ hq)
theorem KB.rel (h:KB f K) {r:xe} (ha:aO f r.a) (hb:aO f r.b):KB f (gz K r):=by
 unfold gz
 split
 ·exact h.add ha hb
 ·split
  ·exact h.add ha hb
  ·split
   ·exact h.both ha hb
   ·exact h
theorem KB.first:KB f (dC f):=by
 unfold dC
 have key:∀(l:List Int) (K:KS),KB f K→(∀v∈l,0≤v∧v<f.vars.length)→KB f (l.foldl (gA f) K):=fun l=>by
  induction l with
  |nil=>exact fun _ h _=>h
  |cons v l ih=>
   intro K h hl
   refine ih _ ?_ fun q hq=>hl q (.tail _ hq)
   obtain ⟨h0,h1⟩:=hl v (.head _)
   have hv:aO f v:=⟨h0,by omega⟩
   unfold gA
   split
   ·exact (h.add hv fv).add fv hv
   ·split
    ·exact h.both hv fv
    ·exact h
 exact key _ _ (KB.emp f) fun v hv=>cJ.1 hv
end
end Go.Proofs.YtdilpodccjlkgaaGreatDoor
namespace Go.Proofs.YtdilpodccjlkgaaGreatDoor
open Go.Proofs.Tryz
def oR (f:ad) (v:Int):Nat:=if 0≤(aF f v).1∧0≤(aF f v).2 then (gi (bC (ae f) f.blocks.length) (aF f v).1).toNat*1025+(aF f v).2.toNat+1 else 0
theorem gH:∀(l:List aN) (b:aN),b∈l→b.insts.length≤cL l
 |c::l,b,h=>by
  have e:cL (c::l)=c.phis.length+c.insts.length+cL l:=by unfold cL;simp
  rcases List.mem_cons.1 h with rfl|h
  ·omega
  ·have:=gH l b h;omega
section
variable {f:ad} (hR:b8 f)
include hR
theorem b8.insts {i k:Nat} {x:aB} (h:Dd f i k x):k<1024∧i<f.blocks.length:=by
 obtain ⟨b,hb,hx⟩:=h
 have h1:=gH _ _ (qs hb)
 have h2:=hR.hS.2.2.2.2.1
 have h3:=(List.getElem?_eq_some_iff.1 hx).1
 exact ⟨by omega,(List.getElem?_eq_some_iff.1 hb).1⟩
theorem b8.nblk:f.blocks.length≤64:=by
 have h:=hR.hS.1
 unfold kS at h
 simp only[Bool.or_eq_false_iff,decide_eq_false_iff_not] at h
 omega
theorem b8.lev {i:Nat} (hi:i<f.blocks.length):0≤gi (bC (ae f) f.blocks.length) (i:Int)∧gi (bC (ae f) f.blocks.length) (i:Int)<f.blocks.length:=by
 have hG:=hR.hE.grph
 have hm:=(bL hG.toEOk (i:Int)).2 (hR.hs.2.1 i hi)
 have:=hG.lev_nn hm
 have:=ue hG hm
 have:=hG.at_lt hm
 have:=eT hG
 omega
theorem b8.rk_arg {v:Int} {y:aB} (h:cS f v=some y):∀a∈y.args,oR f a<oR f v:=fun a ha=>by
 obtain ⟨j,k,hat,hd,hm⟩:=vK h
 have hav:=hR.av hat a ha
 have hG:=hR.hE.grph
 have ev:oR f v=(gi (bC (ae f) f.blocks.length) (j:Int)).toNat*1025+k+1:=by
  unfold oR;rw[hm,if_pos ⟨by dsimp only;omega,by dsimp only;omega⟩];rfl
 rw[ev]
 unfold oR
 split
 ·rename_i h0
  obtain ⟨i,b,h1,h2,h3⟩:=dJ h0.1
  rcases h3 with ⟨_,_,_,h4⟩|⟨q,x,h4,h5,h6⟩
  ·omega
  ·have hat2:Dd f i q x:=⟨b,h1,h4⟩
   have hb:=hR.insts hat2
   unfold Av at hav
   have hm2:aF f a=((i:Int),(q:Int)):=Prod.ext h2 h6
   rw[hm2] at hav ⊢
   have l1:=hR.lev hb.2
   have l2:=hR.lev (hR.insts hat).2
   rcases hav with g|⟨g1,g2⟩|⟨_,g1,g2⟩
   ·dsimp only at g;omega
   ·dsimp only at g1 g2 ⊢
    rw[g1,Int.toNat_natCast];omega
   ·dsimp only at g1 g2 ⊢
    have hmj:=(bL hG.toEOk (j:Int)).2 g2.1
    have hla:=hG.lev_anc hmj ((hG.dom_iff hmj).1 g2)
    have:gi (bC (ae f) f.blocks.length) (i:Int)<gi (bC (ae f) f.blocks.length) (j:Int):=by
     rcases Int.lt_or_le (gi (bC (ae f) f.blocks.length) (i:Int)) (gi (bC (ae f) f.blocks.length) (j:Int)) with h|h
     ·exact h
     ·exact absurd (hla.2.2 h) g1
    rw[Int.toNat_natCast];omega
 ·omega
theorem b8.rk_low (v:Int):oR f v<100000:=by
 unfold oR
 split
 ·rename_i h0
  obtain ⟨i,b,h1,h2,h3⟩:=dJ h0.1
  rcases h3 with ⟨_,_,_,h4⟩|⟨q,x,h4,h5,h6⟩
  ·omega
  ·have hat2:Dd f i q x:=⟨b,h1,h4⟩
   have hb:=hR.insts hat2
   have l1:=hR.lev hb.2
   have:=hR.nblk
   rw[h2,h6,Int.toNat_natCast]
   omega
 ·omega
theorem b8.madeF {v:Int} {y:aB} (h:cS f v=some y):cW f y∧gm f y=true∧y.dst=v:=by
 obtain ⟨j,k,hat,hd,_⟩:=vK h
 exact ⟨(hR.inF hat).1,(hR.inF hat).2,hd⟩
def s6 (f:ad) (r:xe):Prop:=(aO f r.a∧aO f r.b)∧(0≤r.n∧r.n≤2)
omit hR in
theorem ot {q:ky} (h:∀r∈q.out,s6 f r) {a b n:Int} (hr:s6 f ⟨a,b,n⟩):∀r∈(eW q a b n).out,s6 f r:=by
 unfold eW
 split
 ·exact h
 ·intro r hm
  rcases List.mem_append.1 hm with hm|hm
  ·exact h r hm
  ·rw[List.mem_singleton.1 hm];exact hr
theorem pX:∀(n:Nat) (q:ky) (c:Int) (is:Bool),(∀r∈q.out,s6 f r)→∀r∈(kz f n q c is).out,s6 f r
 |0,q,_,_,h=>h
 |n+1,q,c,is,h=>by
  unfold kz
  split
  ·exact h
  split
  ·exact h
  rename_i x hx
  obtain ⟨hF,_,_⟩:=hR.madeF hx
  have a0:∀{k:Int},x.op=k→0<([0,1,2,2,2,2,2,2,2,2,1,2,1,2,3,1,0,1,2,1,1,2,2,2,1,2,2][k.toNat]?).getD 0→aO f (bB x):=fun e h=>bY (hF.a0 (by rw[hF.cnt e];exact h))
  have a1:∀{k:Int},x.op=k→1<([0,1,2,2,2,2,2,2,2,2,1,2,1,2,3,1,0,1,2,1,1,2,2,2,1,2,2][k.toNat]?).getD 0→aO f (cK x):=fun e h=>bY (hF.a1 (by rw[hF.cnt e];exact h))
  split
  ·exact pX n ⟨_,_⟩ _ _ h
  split
  ·exact pX n ⟨_,_⟩ _ _ h
  split
  ·split
   ·exact pX n _ _ _ (pX n ⟨_,_⟩ _ _ h)
   ·exact h
  split
  ·rename_i e
   split
   ·exact ot (q:=⟨q.seen++[(c,is)],q.out⟩) h ⟨⟨a0 e (by decide),a1 e (by decide)⟩,by dsimp only;omega⟩
   ·exact ot (q:=⟨q.seen++[(c,is)],q.out⟩) h ⟨⟨a1 e (by decide),a0 e (by decide)⟩,by dsimp only;omega⟩
  split
  ·rename_i e
   split
   ·exact ot (q:=⟨q.seen++[(c,is)],q.out⟩) h ⟨⟨a0 e (by decide),a1 e (by decide)⟩,by dsimp only;omega⟩
   ·exact ot (q:=⟨q.seen++[(c,is)],q.out⟩) h ⟨⟨a1 e (by decide),a0 e (by decide)⟩,by dsimp only;omega⟩
  split
  ·rename_i e
   split
   ·exact ot (q:=⟨q.seen++[(c,is)],q.out⟩) h ⟨⟨a0 e (by decide),a1 e (by decide)⟩,by dsimp only;omega⟩
   ·exact h
  ·exact h
theorem EY (i:Int):∀r∈De f i,s6 f r:=by
 unfold De
 split
 ·split
  ·exact pX hR _ _ _ _ fun r hr=>(by cases hr)
  ·exact fun r hr=>(by cases hr)
 ·exact fun r hr=>(by cases hr)
omit hR in
theorem KB.rels:∀(l:List xe) (K:KS),KB f K→(∀r∈l,s6 f r)→KB f (l.foldl gz K)
 |[],_,h,_=>h
 |r::l,_,h,hl=>KB.rels l _ (h.rel (hl r (.head _)).1.1 (hl r (.head _)).1.2) fun q hq=>hl q (.tail _ hq)
theorem KB.entr {K:KS} (h:KB f K) (i:Int):KB f (mB f K i):=KB.rels _ _ h (EY hR i)
theorem b8.blkF {i:Int} (h0:0≤i) (h1:i<f.blocks.length):∀x∈(iC f i).insts,cW f x:=fun x hx=>(hR.run.insts _ (BK h0 h1) x hx).1
end
end Go.Proofs.YtdilpodccjlkgaaGreatDoor
namespace Go.Proofs.YtdilpodccjlkgaaGreatDoor
open Go.Proofs.Tryz
open Go.Proofs Go.Lib Go.Shelf Go.RowKit
theorem BN:de prog 54 #[(0,1),(1,1),(2,1),(3,1)] [.int .i64 0,.int .i64 0,.raw (.slice none 0 0),.int .i64 0]:=⟨_,_,wy,Z5,fun w=>by kernel_rfl,rfl⟩
variable {E:World}
set_option maxRecDepth 20000
def bO (q:Int × List Int):List AV:=[.int .i64 q.1,.fro 1 (q.2.map cE)]
def ta (P:List (Int × List Int)):Prop:=P.length≤1000000∧∀q∈P,q.2.length≤1000
def uG (f:ad) (K:KS) (t pr:AV):AV:=tX (.fro 2 (f.vars.map e9)) (.fro 1 (f.params.map cE)) (.fro 7 (f.blocks.map bN)) t (.fro 2 ((bP f).map eP.row)) pr (f.vars.length+1) K.l (dX f) (.fro 2 (K.p.map bO))
theorem gI {f:ad} {K:KS} (hv:f.vars.length≤1000) (h:KB f K):ny (f.vars.length+1) K.l:=⟨by omega,h.fac,by have:=h.len;omega⟩
theorem eM {f:ad} {v:Int} (h:aO f v):m0 (f.vars.length+1) v:=by unfold aO at h;unfold m0;omega
theorem b7 {x:aB} (h:0<x.args.length):x.args[0]?=some (bB x):=by unfold bB;rw[qi h];rfl
theorem cO {x:aB} (h:1<x.args.length):x.args[1]?=some (cK x):=by unfold cK;rw[qi h];rfl
theorem Df (op:Int) (k:Nat) (hk:k≤2) (hop:op=21+(k:Int)) {a b:e7} (ha:lk a) (hb:lk b):aI prog E 158 [.int .i64 op,.agg (lR a),.agg (lR b)] (.bool (decide (a.2<a.1∨b.2<b.1∨kB k a b))):=by
 have hcp:=rW k a b
 have hop2:2+op - 21=2+(k:Int):=by omega
 refine zo func158 Z (by decide) Z<|ah<|ya (cs:=_) Z Z Z<|ya (cs:=_) Z Z Z<|ab Z<|z6<|zd<|zd<|yg (γ:=Bool) [0,4,5] (fun u=>[(12,.bool u)]) (fun u=>[]) (fun u=>u=true) ?_ (fun _ _ h=>h) ?_
 ·refine aV<|aa Z<|za (q3 Z Z)<|ai Z<|zp (s:=9) Z (fun c=>?_) (fun c=>?_)
  ·refine z8 Z Z c<|aa Z<|z8 Z Z c<|za (Gv.leq Z Z)<|ar Z c Z<|z6 ?_
   exact ⟨_,dy,aJ,aE,by simp_all<;>omega⟩
  ·exfalso;simp at c;omega
 ·rintro u hu
  subst hu
  refine yl Z Z<|aV<|aa Z<|aC Z Z<|za (Gv.sub Z Z (by unfold oV;omega))<|ao Z<|z6<|ah<|aa Z<|zf (Cx _) Z<|ai Z<|zp (s:=18) Z (fun c1=>?_) (fun c1=>?_)
  ·refine z8 Z Z c1<|ac Zr Z3 Z Z<|z8 Z Z c1<|zf (lS _) Z<|z8 Z Z c1<|ai Z<|zp (s:=21) Z (fun c2=>?_) (fun c2=>?_)
   ·refine z7 Z Z c2<|z7 Z Z c2<|z8 Z Z c1<|ar Z c2 Z<|z8 Z Z c1<|ai Z<|z7 Z Z Z<|z7 Z Z Z<|z7 Z Z Z<|z7 Z Z Z<|z7 Z Z Z<|z7 Z Z Z<|z8 Z Z c1<|ar Z Z Z<|ar Z c1 Z<|ab Z<|z6<|zh<|zk (x:=.bool _) Z ?_
    exact jb (by simp_all)
   ·refine z8 Z Z c2<|ac Zr Z3 Z Z<|z8 Z Z c2<|zf (lS _) Z<|z8 Z Z c1<|au Z c2 Z<|z8 Z Z c1<|ai Z<|zp (s:=25) Z (fun c3=>?_) (fun c3=>?_)
    ·refine z7 Z Z c3<|z7 Z Z c3<|z7 Z Z c3<|z7 Z Z c3<|z7 Z Z c3<|z7 Z Z c3<|z8 Z Z c1<|ar Z c3 Z<|ar Z c1 Z<|ab Z<|z6<|zh<|zk (x:=.bool _) Z ?_
     exact jb (by simp_all)
    ·refine z8 Z Z c3<|aa Z<|z8 Z Z c3<|ac Zr Z3 Z Z<|z8 Z Z c3<|ac Zr Z3 Z Z<|z8 Z Z c3<|zf (su (2+op - 21) k hk hop2 ha hb) Z<|z8 Z Z c3<|za (Gv.field1 (v:=.bool _) Yr Z Yh Z Z)<|z8 Z Z c3<|aD Z<|z8 Z Z c1<|au Z c3 Z<|ar Z c1 Z<|ab Z<|z6<|zh<|zk (x:=.bool _) Z ?_
     exact jb (by have h2:¬a.2<a.1:=(by simpa using c2);have h3:¬b.2<b.1:=(by simpa using c3);simp[h2,h3,hcp])
  ·exfalso;simp at c1;omega
theorem zY {f:ad} {K:KS} (hv:f.vars.length≤1000) (h:KB f K) (a b c d:Int):lk (-(eX K.l (f.vars.length+1) a b).getD 0,(eX K.l (f.vars.length+1) c d).getD 0):=by
 have h1:=m5 (gI hv h) (a:=a) (b:=b)
 have h2:=m5 (gI hv h) (a:=c) (b:=d)
 unfold lk dG
 have hm:Cr=-9223372036854775808:=rfl
 have hM:Cs=9223372036854775807:=rfl
 dsimp only
 omega
section
variable {f:ad} {K:KS} {t pr:AV} (hv:f.vars.length≤1000) (hK:KB f K)
include hv hK
theorem lC (x:aB) (hx:1<x.args.length) (h0:aO f (bB x)) (h1:aO f (cK x)) (k:Nat) (hk:k≤2) (hop:x.op=2+(k:Int)∨x.op=21+(k:Int)) :
  aI prog E 115 [uG f K t pr,.agg (be x)] (.bool (ri f K k (bB x) (cK x))):=by
 have hl:=gI hv hK
 have hq:=eM (fv (f:=f))
 have hs0:=nz (E:=E) (f0:=.fro 2 (f.vars.map e9)) (f1:=.fro 1 (f.params.map cE)) (f2:=.fro 7 (f.blocks.map bN)) (t:=t) (m:=.fro 2 ((bP f).map eP.row)) (pr:=pr) (ps:=.fro 2 (K.p.map bO)) hl (eM h0) hq
 have hs1:=nz (E:=E) (f0:=.fro 2 (f.vars.map e9)) (f1:=.fro 1 (f.params.map cE)) (f2:=.fro 7 (f.blocks.map bN)) (t:=t) (m:=.fro 2 ((bP f).map eP.row)) (pr:=pr) (ps:=.fro 2 (K.p.map bO)) hl (eM h1) hq
 have ha:=zY hv hK (dX f) (bB x) (bB x) (dX f)
 have hb:=zY hv hK (dX f) (cK x) (cK x) (dX f)
 have hfit:aI prog E 158 _ _:=hop.elim (fun e=>DZ x.op k hk e ha hb) (fun e=>Df x.op k hk e ha hb)
 have fin:∀P Q R S:Option Int,eL f K (dX f) (bB x)=P→eL f K (bB x) (dX f)=Q→eL f K (dX f) (cK x)=R→eL f K (cK x) (dX f)=S →
   ri f K k (bB x) (cK x)=((P.isSome&&Q.isSome)&&((R.isSome&&S.isSome)&&decide ((-P.getD 0,Q.getD 0).2<(-P.getD 0,Q.getD 0).1∨(-R.getD 0,S.getD 0).2<(-R.getD 0,S.getD 0).1∨kB k (-P.getD 0,Q.getD 0) (-R.getD 0,S.getD 0)))):=fun P Q R S e1 e2 e3 e4=>by
  unfold ri zW
  rw[e1,e2,e3,e4]
  cases P<;>cases Q<;>cases R<;>cases S<;>simp[CB]
 have fin:=fin _ _ _ _ rfl rfl rfl rfl
 unfold eL at fin
 rw[fin]
 unfold uG tX at *
 refine zo func115 Z (by decide) Z<|ah<|ya (cs:=_) Z Z Z<|ab Z<|z6<|ah<|za (ep Z)<|aq wy Z j5 Z Z<|aH j9 Z<|za (bx 0 wx wz Z Z Z (b7 (by omega)))<|ay j6 Z<|zf (hs0) Z<|za (iW Z)<|za (q4 (v:=.agg _) Z Z)<|za (ij Z Z)<|y5 (cs:=[.int .i64 0,.int .i64 0]) Yi Z Z<|fun i5=>zz Z3 Z Z Z Z Z Z .head Z<|ze (yd (t:=5) Z .head)<|ab Z<|z6<|ah<|za (ep Z)<|aq wy Z j5 Z Z<|aH j9 Z<|za (bx 1 wx wz Z Z Z (cO hx))<|ay j6 Z<|zf (hs1) Z<|za (iW Z)<|za (q4 (v:=.agg _) Z Z)<|za (ij Z Z)<|y5 (cs:=[.int .i64 0,.int .i64 0]) Yi Z Z<|fun i7=>zz Z3 Z Z Z Z Z Z .head Z<|ze (yd (t:=7) Z .head)<|ab Z<|z6<|ah<|ai Z<|ai Z<|zp (s:=28) Z (fun c1=>?_) (fun c1=>?_)
 ·refine z8 Z Z c1<|ai Z<|ar Z c1 Z<|ai Z<|zp (s:=31) Z (fun c2=>?_) (fun c2=>?_)
  ·refine z8 Z Z c2<|aq wy Z jv Z Z<|z8 Z Z c2<|ay jy Z<|z8 Z Z c2<|ac Zr Z3 Z Z<|z8 Z Z c2<|ac Zr Z3 Z Z<|z8 Z Z c2<|zf (hfit) Z<|ar Z c2 Z<|ab Z<|z6<|zh<|zk (x:=.bool _) Z ?_
   exact jb (by simp_all)
  ·refine z7 Z Z c2<|z7 Z Z c2<|z7 Z Z c2<|z7 Z Z c2<|z7 Z Z c2<|au Z c2 Z<|ab Z<|z6<|zh<|zk (x:=.bool _) Z ?_
   exact jb (by simp_all)
 ·refine z7 Z Z c1<|au Z c1 Z<|ai Z<|z7 Z Z Z<|z7 Z Z Z<|z7 Z Z Z<|z7 Z Z Z<|z7 Z Z Z<|au Z Z Z<|ab Z<|z6<|zh<|zk (x:=.bool _) Z ?_
  exact jb (by simp_all)
theorem uH (op:Int) (l:List Int) (q:Int × List Int) (hq:q.2.length≤1000):aI prog E 154 ([.agg (bO q)]++[.pf [.int .i64 op],.pf [.fro 1 (l.map cE)]]) (.bool (decide (q.1=op∧q.2=l))):=by
 refine zo func154 Z (by decide) Z<|ah<|ya (cs:=_) Z Z Z<|ab Z<|z6<|ah<|aq underlying187 Z jv Z Z<|ay jy Z<|ay jy Z<|ak Z Z<|ai Z<|zp (s:=9) Z (fun c3=>?_) (fun c3=>?_)
 ·refine z8 Z Z c3<|aq underlying187 Z j5 Z Z<|z8 Z Z c3<|aH j9 Z<|z8 Z Z c3<|aH j9 Z<|z8 Z Z c3<|zf (ml q.2 l (by unfold nG;omega)) Z<|ar Z c3 Z<|ab Z<|z6<|zh<|zk (x:=.bool _) Z ?_
  exact jb (by simp_all)
 ·refine z7 Z Z c3<|z7 Z Z c3<|z7 Z Z c3<|z7 Z Z c3<|au Z c3 Z<|ab Z<|z6<|zh<|zk (x:=.bool _) Z ?_
  exact jb (by simp_all)
omit hv hK in
theorem mW {p:Int × List Int→Bool} {fn:FuncId} {c:List AV} (xs:List (Int × List Int)) (hl:xs.length≤281474976710656) (hp:∀x∈xs,aI prog E fn ([.agg (bO x)]++c) (.bool (p x))) :
  aI prog E 186 [.fro 2 (xs.map bO),.fn fn [] c] (.int .i64 (bT p xs 0)):=by
 refine zo func186 Z (by decide) Z<|ah<|ao Z<|z6<|zd<|ah<|bb Z<|ap Yw Z<|aa Z<|z6<|zj<|y8 (γ:=Nat) [0,1,7] (fun k=>[(8,.int .i64 k)]) (fun k=>[]) (fun k=>k≤xs.length∧(xs.take k).all (fun x=>!p x)) (fun k=>xs.length - k) 0 aJ aE (⟨ql _,Z⟩) ?_
 rintro k ⟨hk,hall⟩
 refine ah<|aw Z Z<|z6<|zd<|zw Z (fun ck=>?_) (fun ck=>?_)
 ·have hk2:k<xs.length:=by simp at ck;omega
  refine zg<|zd<|zj<|ah<|aa Z<|ao Z<|z6<|ah<|za (yr (v:=.fn _ _ _) Z)<|bb Z<|aa Z<|za (bx k Yw sizeOf187 Z Z Z (qi hk2))<|ac isAgg187 sizeOf187 Z Z<|ax.callVP Z (hp _ (qm hk2)) Z<|z6<|zu Z (fun cp=>?_) (fun cp=>?_)
  ·refine ah<|aa Z<|ao Z<|z6<|zh<|zk (x:=.int _ _) Z ?_
   rw[bq p xs k hk hall,List.drop_eq_getElem_cons hk2,bT,if_pos cp]
  ·refine zg<|aV<|aC Z Z<|aa Z<|z6 ?_
   exact ⟨k+1,dy,aJ,aE,⟨hk2,by rw[qj hk2,List.all_append,hall];simp[cp]⟩,by omega⟩
 ·have hkn:k=xs.length:=by simp at ck;omega
  refine y7<|ah<|ao Z<|z6<|zh<|zk (x:=.int _ _) Z ?_
  rw[bq p xs k hk hall,hkn,List.drop_length,bT]
omit hv hK in
theorem k0 {p:Int × List Int→Bool} {fn:FuncId} {c:List AV} (xs:List (Int × List Int)) (hl:xs.length≤281474976710656) (hp:∀x∈xs,aI prog E fn ([.agg (bO x)]++c) (.bool (p x))) :
  aI prog E 153 [.fro 2 (xs.map bO),.fn fn [] c] (.bool (xs.any p)):=by
 refine zo func153 Z (by decide) Z<|ah<|ab Z<|z6<|ah<|bb Z<|za (yr (v:=.fn _ _ _) Z)<|zf (mW xs hl hp) Z<|za (q3 Z Z)<|ab Z<|z6<|zh<|zk (x:=.bool _) Z ?_
 rw[ej]
theorem pY (hP:ta K.p) (op:Int) (l:List Int):aI prog E 112 [uG f K t pr,.int .i64 op,.fro 1 (l.map cE)] (.bool (mT K op l)):=by
 unfold uG tX
 refine zo func112 Z (by decide) Z<|ah<|ya (cs:=[_]) Z Z Z<|ya (cs:=[_]) Z Z Z<|ab Z<|z6<|ah<|za (ep Z)<|za (yf Z)<|aq j7 Z sizeOf72 Z Z<|aH isAgg72 Z<|za (Gv.func Z Z)<|zf (k0 K.p (by have:=hP.1;omega) (fun q hq=>uH hv hK op l q (hP.2 q hq))) Z<|ab Z<|z6<|zh<|zk (x:=.bool _) Z ?_
 rfl
end
def Ff (o:Option aB):List AV:=match o with|some x=>be x|none=>[.int .i64 0,.int .i64 0,.raw (.slice none 0 0),.int .i64 0]
theorem mC {f:ad} {K:KS} {t pr:AV} {v:Int} (h:aT f v=true):aI prog E 114 [uG f K t pr,.int .i64 v] (.tup [.agg (Ff (cS f v)),.bool (cS f v).isSome]):=by
 obtain ⟨hv0,hvg⟩:=fE h
 unfold uG tX
 refine zo func114 Z (by decide) Z<|ah<|y5 (cs:=[.int .i64 0,.int .i64 0,.raw (.slice none 0 0),.int .i64 0]) Z5 Z Z<|fun i4=>ab Z<|z6<|ah<|za (ep Z)<|za (yf Z)<|aq j7 Z Yb Z Z<|aH Ys Z<|aa Z<|za (bx v.toNat Zl Ya Z Z (by omega) hvg)<|ac isAgg77 Ya Z Z<|y5 (cs:=[.int .i64 0,.int .i64 0]) zeroValue77 Z Z<|fun i6=>zz Ya Z Z Z Z Z Z .head Z<|ze (yd (t:=6) Z .head)<|z6<|zd<|zd<|yg (γ:=Bool) [0,4,6] (fun u=>[(21,.bool u)]) (fun u=>[(i4,.cells 54 [.int .i64 0,.int .i64 0,.raw (.slice none 0 0),.int .i64 0])]) (fun u=>u=decide (¬(0≤(aF f v).1∧0≤(aF f v).2))) ?_ (fun _ _ h=>h) ?_
 ·refine aV<|aq Zg Z wz Z Z<|ay j6 Z<|aw Z Z<|ai Z<|zp (s:=17) Z (fun c4=>?_) (fun c4=>?_)
  ·refine z7 Z Z c4<|z7 Z Z c4<|z7 Z Z c4<|ar Z c4 Z<|z6 ?_
   exact ⟨_,dy,aJ,aE,by simp_all<;>omega⟩
  ·refine z8 Z Z c4<|aq Zg Z wz Z Z<|z8 Z Z c4<|ay j6 Z<|z8 Z Z c4<|aw Z Z<|au Z c4 Z<|z6 ?_
   exact ⟨_,dy,aJ,aE,by simp_all<;>omega⟩
 ·rintro u hu
  refine zu Z (fun cu=>?_) (fun cu=>?_)
  ·have hn:cS f v=none:=by unfold cS;rw[if_neg (qz (hu▸cu))]
   rw[hn]
   refine ah<|za (y4 (cps:=[]) (rs:=[.int .i64 0,.int .i64 0,.raw (.slice none 0 0),.int .i64 0]) BN Z Z Z)<|zz jk Z Z Z Z Z Z .head Z<|ab Z<|z6<|zh<|dx.c1t (y:=.bool _) Z Z ⟨_,.head⟩ Zn jk Z ?_
   rfl
  ·have hy:0≤(aF f v).1∧0≤(aF f v).2:=by rw[hu] at cu;simpa using cu
   obtain ⟨i,b,h1,h2,h3⟩:=dJ hy.1
   obtain ⟨q,x,h4,h5,h6⟩:∃(q:Nat) (x:aB),b.insts[q]?=some x∧x.dst=v∧(aF f v).2=q:=by
    rcases h3 with ⟨_,_,_,h4⟩|h3
    ·omega
    ·exact h3
   have hm:cS f v=some x:=by unfold cS;rw[if_pos hy,h2,h6,Int.toNat_natCast,Int.toNat_natCast,h1];exact h4
   rw[hm]
   refine zg<|zd<|zt (fun j=>Nat.beq j 14) (by kernel_rfl) Z (zm (.rest _))<|aj 0 Z (ep Z)<|aj 1 Z (yf Z)<|aj 2 Z (bK j7 Z jh Z Z)<|aj 3 Z (bK je Z Z0 Z Z)<|aj 4 Z (eH Zb Z)<|aj 5 Z (bK Zg Z wz Z Z)<|aj 6 Z (da j6 Z)<|aj 7 Z (bx i ji ju Z Z h2 h1)<|aj 8 Z (bK jg Z Zd Z Z)<|aj 9 Z (eH Zs Z)<|aj 10 Z (bK Zg Z wz Z Z)<|aj 11 Z (da j6 Z)<|aj 12 Z (bx q jt jk Z Z h6 h4)<|aj 13 Z (yt Zn jk Z Z)<|ym<|yk (i:=14) Z (by kernel_rfl) (by kernel_rfl)<|zz jk Z Z Z Z Z Z .head Z<|z6<|yk (i:=15) Z (by kernel_rfl) (by kernel_rfl)<|ab Z<|z6<|yq (by kernel_rfl)<|zh<|dx.c1t (y:=.bool _) Z Z ⟨_,.head⟩ Zn jk Z ?_
   rfl
end Go.Proofs.YtdilpodccjlkgaaGreatDoor
namespace Go.Proofs.YtdilpodccjlkgaaGreatDoor
open Go.Proofs.Tryz
open Go.Proofs Go.Lib Go.Shelf Go.RowKit
variable {E:World}
set_option maxRecDepth 20000
theorem tb {f:ad} {K:KS} {t pr:AV} {v:Int} (h:aT f v=true) (hm:cS f v=none):aI prog E 114 [uG f K t pr,.int .i64 v] (.tup [.agg [.int .i64 0,.int .i64 0,.raw (.slice none 0 0),.int .i64 0],.bool false]):=by
 have:=mC (E:=E) (K:=K) (t:=t) (pr:=pr) h
 rw[hm] at this
 exact this
theorem tc {f:ad} {K:KS} {t pr:AV} {v:Int} (h:aT f v=true) {y:aB} (hm:cS f v=some y):aI prog E 114 [uG f K t pr,.int .i64 v] (.tup [.agg (be y),.bool true]):=by
 have:=mC (E:=E) (K:=K) (t:=t) (pr:=pr) h
 rw[hm] at this
 exact this
section
variable {f:ad} {K:KS} {t pr:AV} (hv:f.vars.length≤1000) (hK:KB f K)
include hv hK
theorem Eg {a b:Int} (ha:aO f a) (hb:aO f b) (c:Int):aI prog E 113 [vo (f.vars.length+1) K.l .any,.int .i64 a,.int .i64 b,.int .i64 c] (.bool (et f K a b c)):=o6 _ K.l .any (gI hv hK) (eM ha) (eM hb) c
set_option maxHeartbeats 4000000 in
theorem rj (hP:ta K.p) (x:aB) (hF:cW f x) (hc:18≤x.op∧x.op≤24):aI prog E 71 [uG f K t pr,.agg (be x)] (.bool (lB f K x)):=by
 have a0:aO f (bB x)∧0<x.args.length:=by
  have h:=hF.cnt (k:=x.op) rfl
  have h2:0<x.args.length:=by
   obtain ⟨k,hk,e⟩:∃k:Nat,k≤6∧x.op=18+(k:Int):=⟨(x.op - 18).toNat,by omega,by omega⟩
   rw[h,e]
   have:k=0∨k=1∨k=2∨k=3∨k=4∨k=5∨k=6:=by omega
   rcases this with rfl|rfl|rfl|rfl|rfl|rfl|rfl<;>decide
  exact ⟨bY (hF.a0 h2),h2⟩
 have hV0:aT f (bB x)=true:=by have:=hF.a0 a0.2;unfold aT;simpa using ⟨this.2,this.1⟩
 have a1:∀{k:Int},x.op=k→1<([0,1,2,2,2,2,2,2,2,2,1,2,1,2,3,1,0,1,2,1,1,2,2,2,1,2,2][k.toNat]?).getD 0→aO f (cK x)∧1<x.args.length:=fun e h=>⟨bY (hF.a1 (by rw[hF.cnt e];exact h)),by rw[hF.cnt e];exact h⟩
 have nn:aO f (dX f):=fv
 have hg0:=b7 a0.2
 have hW:=pY (E:=E) (t:=t) (pr:=pr) hv hK hP x.op x.args
 have hM:=tb (E:=E) (K:=K) (t:=t) (pr:=pr) hV0
 have hM2:=fun y=>tc (E:=E) (K:=K) (t:=t) (pr:=pr) hV0 (y:=y)
 have hwi:=fun h1 h2 k=>lC (E:=E) (t:=t) (pr:=pr) hv hK x h1 a0.1 h2 k
 have flw:=fun a b c ha hb=>Eg (E:=E) hv hK (a:=a) (b:=b) ha hb c
 unfold uG tX at *
 unfold vo at flw ⊢
 unfold vo at hW hM hM2 hwi
 refine zo func71 Z (by decide) Z<|ah<|ya (cs:=_) Z Z Z<|ab Z<|z6<|zd<|ah<|za (ep Z)<|aq wy Z jv Z Z<|ay jy Z<|aq wy Z j5 Z Z<|aH j9 Z<|zf (hW) Z<|z6<|zu Z (fun cw=>?_) (fun cw=>?_)
 ·refine ah<|ab Z<|z6<|zh<|zk (x:=.bool _) Z ?_
  rw[lB,cw];rfl
 ·rw[lB,cw,Bool.false_or]
  refine zg<|ah<|aq wy Z j5 Z Z<|aH j9 Z<|za (bx 0 wx wz Z Z Z hg0)<|ay j6 Z<|ao Z<|z6<|zd<|ah<|aq wy Z jv Z Z<|ay jy Z<|z6<|zj<|ah<|ak Z Z<|ab Z<|z6<|zw Z (fun c18=>?_) (fun c18=>?_)
  ·have c18:x.op=18:=c18
   have h1:=a1 c18 (by decide)
   rw[if_pos c18]
   refine zd<|zt (fun j=>false) (by kernel_rfl) Z (zm (.rest _))<|aj 0 Z (ep Z)<|aj 1 Z (yf Z)<|aj 2 Z (bK j7 Z Z2 Z Z)<|aj 3 Z (yo (c:=.pf _) Z9 Z)<|aj 4 Z (ep Z)<|aj 5 Z (yf Z)<|aj 6 Z (bK j7 Z wz Z Z)<|aj 7 Z (da j6 Z)<|aj 8 Z (bK wy Z j5 Z Z)<|aj 9 Z (eH j9 Z)<|aj 10 Z (bx 1 wx wz Z Z Z (cO h1.2))<|aj 11 Z (da j6 Z)<|aY 12 Z<|zf (flw _ _ 0 nn h1.1) Z<|z6<|aj 13 Z (m4 Z)<|qe (s:=35) Z (fun c1=>?_) (fun c1=>?_)
   ·refine cC 14 Z Z Z c1 (ep Z)<|cC 15 Z Z Z c1 (yf Z)<|cC 16 Z Z Z c1 (bK j7 Z Z2 Z Z)<|cC 17 Z Z Z c1 (yo (c:=.pf _) Z9 Z)<|cC 18 Z Z Z c1 (bK wy Z j5 Z Z)<|cC 19 Z Z Z c1 (eH j9 Z)<|cC 20 Z Z Z c1 (bx 1 wx wz Z Z Z (cO h1.2))<|cC 21 Z Z Z c1 (da j6 Z)<|cC 22 Z Z Z c1 (dF Z)<|aY 23 Z<|z8 Z Z c1<|zf (flw _ _ (-1) h1.1 a0.1) Z<|z6<|aj 24 Z (rR Z c1 Z)<|aj 25 Z (oO Z)<|bV<|zh<|zk (x:=.bool _) Z ?_
    exact jb (by simp_all)
   ·refine bR 14 Z Z Z c1<|bR 15 Z Z Z c1<|bR 16 Z Z Z c1<|bR 17 Z Z Z c1<|bR 18 Z Z Z c1<|bR 19 Z Z Z c1<|bR 20 Z Z Z c1<|bR 21 Z Z Z c1<|bR 22 Z Z Z c1<|bR 23 Z Z Z c1<|aj 24 Z (qD Z c1 Z)<|aj 25 Z (oO Z)<|bV<|zh<|zk (x:=.bool _) Z ?_
    exact jb (by simp_all)
  ·rw[if_neg (show ¬x.op=18 from c18)]
   refine ah<|ak Z Z<|ab Z<|z6<|zw Z (fun c19=>?_) (fun c19=>?_)
   ·rw[if_pos (show x.op=19 from c19)]
    unfold Ee
    rcases hm:cS f (bB x) with _|y
    ·refine ah<|za (ep Z)<|aa Z<|zf (hM hm) Z<|za (iW Z)<|za (q4 (v:=.agg _) Z Z)<|za (ij Z Z)<|y5 (cs:=[.int .i64 0,.int .i64 0,.raw (.slice none 0 0),.int .i64 0]) Z5 Z Z<|fun i6=>zz jk Z Z Z Z Z Z .head Z<|ze (yd (t:=6) Z .head)<|ab Z<|z6<|zd<|zt (fun j=>false) (by kernel_rfl) Z (zm (.rest _))<|aj 0 Z (m4 Z)<|aj 1 Z (m4 Z)<|bR 2 Z Z Z Z<|bR 3 Z Z Z Z<|bR 4 Z Z Z Z<|aj 5 Z (qD Z Z Z)<|aj 6 Z (m4 Z)<|cC 7 Z Z Z Z (ep Z)<|cC 8 Z Z Z Z (yf Z)<|cC 9 Z Z Z Z (bK j7 Z Z2 Z Z)<|cC 10 Z Z Z Z (yo (c:=.pf _) Z9 Z)<|cC 11 Z Z Z Z (ep Z)<|cC 12 Z Z Z Z (yf Z)<|cC 13 Z Z Z Z (bK j7 Z wz Z Z)<|cC 14 Z Z Z Z (da j6 Z)<|cC 15 Z Z Z Z (dF Z)<|aY 16 Z<|z8 Z Z Z<|zf (flw _ _ (-1) nn a0.1) Z<|z6<|aj 17 Z (qD Z Z Z)<|aj 18 Z (oO Z)<|bV<|zh<|zk (x:=.bool _) Z ?_
     exact jb (by simp_all)
    ·refine ah<|za (ep Z)<|aa Z<|zf (hM2 y hm) Z<|za (iW Z)<|za (q4 (v:=.agg _) Z Z)<|za (ij Z Z)<|y5 (cs:=[.int .i64 0,.int .i64 0,.raw (.slice none 0 0),.int .i64 0]) Z5 Z Z<|fun i6=>zz jk Z Z Z Z Z Z .head Z<|ze (yd (t:=6) Z .head)<|ab Z<|z6<|zd<|zt (fun j=>false) (by kernel_rfl) Z (zm (.rest _))<|aj 0 Z (m4 Z)<|aj 1 Z (m4 Z)<|cC 2 Z Z Z Z (bK wy Z jv Z Z)<|cC 3 Z Z Z Z (da jy Z)<|cC 4 Z Z Z Z (Gv.eqlI Z Z)<|aj 5 Z (rR Z Z Z)<|aj 6 Z (m4 Z)<|qe (s:=61) Z (fun c2=>?_) (fun c2=>?_)
     ·refine bR 7 Z Z Z c2<|bR 8 Z Z Z c2<|bR 9 Z Z Z c2<|bR 10 Z Z Z c2<|bR 11 Z Z Z c2<|bR 12 Z Z Z c2<|bR 13 Z Z Z c2<|bR 14 Z Z Z c2<|bR 15 Z Z Z c2<|bR 16 Z Z Z c2<|aj 17 Z (rR Z c2 Z)<|aj 18 Z (oO Z)<|bV<|zh<|zk (x:=.bool _) Z ?_
      exact jb (by simp_all)
     ·refine cC 7 Z Z Z c2 (ep Z)<|cC 8 Z Z Z c2 (yf Z)<|cC 9 Z Z Z c2 (bK j7 Z Z2 Z Z)<|cC 10 Z Z Z c2 (yo (c:=.pf _) Z9 Z)<|cC 11 Z Z Z c2 (ep Z)<|cC 12 Z Z Z c2 (yf Z)<|cC 13 Z Z Z c2 (bK j7 Z wz Z Z)<|cC 14 Z Z Z c2 (da j6 Z)<|cC 15 Z Z Z c2 (dF Z)<|aY 16 Z<|z8 Z Z c2<|zf (flw _ _ (-1) nn a0.1) Z<|z6<|aj 17 Z (qD Z c2 Z)<|aj 18 Z (oO Z)<|bV<|zh<|zk (x:=.bool _) Z ?_
      exact jb (by simp_all)
   ·rw[if_neg (show ¬x.op=19 from c19)]
    refine ah<|ak Z Z<|ab Z<|z6<|zw Z (fun c20=>?_) (fun c20=>?_)
    ·rw[if_pos (show x.op=20 from c20)]
     refine zd<|zt (fun j=>false) (by kernel_rfl) Z (zm (.rest _))<|aj 0 Z (ep Z)<|aj 1 Z (yf Z)<|aj 2 Z (bK j7 Z Z2 Z Z)<|aj 3 Z (yo (c:=.pf _) Z9 Z)<|aj 4 Z (ep Z)<|aj 5 Z (yf Z)<|aj 6 Z (bK j7 Z wz Z Z)<|aj 7 Z (da j6 Z)<|aj 8 Z (dF Z)<|aY 9 Z<|zf (flw _ _ (-1) nn a0.1) Z<|z6<|aj 10 Z (m4 Z)<|qe (s:=85) Z (fun c3=>?_) (fun c3=>?_)
     ·refine bR 11 Z Z Z c3<|bR 12 Z Z Z c3<|bR 13 Z Z Z c3<|bR 14 Z Z Z c3<|bR 15 Z Z Z c3<|bR 16 Z Z Z c3<|bR 17 Z Z Z c3<|bR 18 Z Z Z c3<|bR 19 Z Z Z c3<|bR 20 Z Z Z c3<|aj 21 Z (rR Z c3 Z)<|aj 22 Z (oO Z)<|bV<|zh<|zk (x:=.bool _) Z ?_
      exact jb (by simp_all)
     ·refine cC 11 Z Z Z c3 (ep Z)<|cC 12 Z Z Z c3 (yf Z)<|cC 13 Z Z Z c3 (bK j7 Z Z2 Z Z)<|cC 14 Z Z Z c3 (yo (c:=.pf _) Z9 Z)<|cC 15 Z Z Z c3 (dF Z)<|cC 16 Z Z Z c3 (ep Z)<|cC 17 Z Z Z c3 (yf Z)<|cC 18 Z Z Z c3 (bK j7 Z wz Z Z)<|cC 19 Z Z Z c3 (da j6 Z)<|aY 20 Z<|z8 Z Z c3<|zf (flw _ _ (-1) a0.1 nn) Z<|z6<|aj 21 Z (qD Z c3 Z)<|aj 22 Z (oO Z)<|bV<|zh<|zk (x:=.bool _) Z ?_
      exact jb (by simp_all)
    ·rw[if_neg (show ¬x.op=20 from c20)]
     refine ah<|ak Z Z<|ab Z<|z6<|zw Z (fun c24=>?_) (fun c24=>?_)
     ·rw[if_pos (show x.op=24 from c24)]
      refine zd<|zt (fun j=>false) (by kernel_rfl) Z (zm (.rest _))<|aj 0 Z (ep Z)<|aj 1 Z (yf Z)<|aj 2 Z (bK j7 Z Z2 Z Z)<|aj 3 Z (yo (c:=.pf _) Z9 Z)<|aj 4 Z (ep Z)<|aj 5 Z (yf Z)<|aj 6 Z (bK j7 Z wz Z Z)<|aj 7 Z (da j6 Z)<|aj 8 Z (dF Z)<|aY 9 Z<|zf (flw _ _ 0 nn a0.1) Z<|z6<|aj 10 Z (m4 Z)<|qe (s:=109) Z (fun c4=>?_) (fun c4=>?_)
      ·refine cC 11 Z Z Z c4 (ep Z)<|cC 12 Z Z Z c4 (yf Z)<|cC 13 Z Z Z c4 (bK j7 Z Z2 Z Z)<|cC 14 Z Z Z c4 (yo (c:=.pf _) Z9 Z)<|cC 15 Z Z Z c4 (dF Z)<|cC 16 Z Z Z c4 (ep Z)<|cC 17 Z Z Z c4 (yf Z)<|cC 18 Z Z Z c4 (bK j7 Z wz Z Z)<|cC 19 Z Z Z c4 (da j6 Z)<|aY 20 Z<|z8 Z Z c4<|zf (flw _ _ 64 a0.1 nn) Z<|z6<|aj 21 Z (rR Z c4 Z)<|aj 22 Z (oO Z)<|bV<|zh<|zk (x:=.bool _) Z ?_
       exact jb (by simp_all)
      ·refine bR 11 Z Z Z c4<|bR 12 Z Z Z c4<|bR 13 Z Z Z c4<|bR 14 Z Z Z c4<|bR 15 Z Z Z c4<|bR 16 Z Z Z c4<|bR 17 Z Z Z c4<|bR 18 Z Z Z c4<|bR 19 Z Z Z c4<|bR 20 Z Z Z c4<|aj 21 Z (qD Z c4 Z)<|aj 22 Z (oO Z)<|bV<|zh<|zk (x:=.bool _) Z ?_
       exact jb (by simp_all)
     ·rw[if_neg (show ¬x.op=24 from c24)]
      obtain ⟨k,hk,e⟩:∃k:Nat,k≤2∧x.op=21+(k:Int):=⟨(x.op - 21).toNat,by omega,by omega⟩
      have h1:aO f (cK x)∧1<x.args.length:=by
       have:k=0∨k=1∨k=2:=by omega
       rcases this with rfl|rfl|rfl
       ·exact a1 e (by decide)
       ·exact a1 e (by decide)
       ·exact a1 e (by decide)
      rw[show (x.op - 21).toNat=k by omega]
      refine zg<|ah<|za (ep Z)<|ac Zn jk Z Z<|zf (hwi h1.2 h1.1 k hk (.inr e)) Z<|ab Z<|z6<|zh<|zk (x:=.bool _) Z ?_
      rfl
end
end Go.Proofs.YtdilpodccjlkgaaGreatDoor
namespace Go.Proofs.YtdilpodccjlkgaaGreatDoor
open Go.Proofs.Tryz
open Go.Proofs Go.Lib Go.Shelf Go.RowKit
theorem Eh:de prog 180 #[(0,1),(1,1),(2,1)] [.int .i64 0,.int .i64 0,.int .i64 0]:=⟨_,_,Yp,zeroValue180,fun w=>by kernel_rfl,rfl⟩
theorem BO:cF prog 134 180 1 3 [.int .i64 0,.int .i64 0,.int .i64 0]:=⟨_,Yk,sizeOf180,zeroValue180,by decide,by decide,by kernel_rfl⟩
theorem Ei:de prog 136 #[(0,1),(1,1),(2,1)] [.int .i64 0,.raw (.slice none 0 0),.raw (.slice none 0 0)]:=⟨_,_,Ze,zeroValue136,fun w=>by kernel_rfl,rfl⟩
variable {E:World}
set_option maxRecDepth 20000
def k4 (l:List fw) (a b c:Int):List fw:=if -bw≤c∧c≤bw∧l.length<8192 then l++[⟨a,b,c⟩] else l
def oS (js jl jm n:Nat) (l:List fw) (M:List Int):OL:=[(js,.cells 136 [.int .i64 n,.own jl l.length,.own jm M.length]),(jl,.grow 3 180 (l.map bM).flatten),(jm,.grow 1 3 (cI M))]
theorem vL (r:List fw):(r.map bM).flatten.length=r.length*3:=by
 induction r with
 |nil=>rfl
 |cons o r ih=>rw[List.map_cons,List.flatten_cons,qo,ih,List.length_cons];show 3+_=_;omega
theorem rl {c:Int} {l:List fw} {u:Bool} (h:u=(decide (c < -1152921504606846976)||(decide (1152921504606846976<c)||decide (8192≤(l.length:Int))))):u=!decide (-bw≤c∧c≤bw∧l.length<8192):=by
 rw[h,qr]
 unfold bw
 simp
 omega
theorem l7 (js jl jm n:Nat) (l:List fw) (M:List Int) {a b:Int} (ha:m0 n a) (hb:m0 n b) (c:Int) (hll:l.length≤8192) :
  aU prog E 66 [.po js 0,.int .i64 a,.int .i64 b,.int .i64 c] (oS js jl jm n l M) (fun y O=>∃g:Nat × Bool,y=.bool g.2∧O=oS js g.1 jm n (k4 l a b c) M∧True):=by
 refine yz (γ:=Nat × Bool) (x:=fun g=>.bool g.2) (M:=fun g=>oS js g.1 jm n (k4 l a b c) M) (p:=fun _=>True) ?_
 have ha2:=ha
 have hb2:=hb
 unfold m0 at ha2 hb2
 have hsa:=fun z y=>jY (E:=E) n z y a
 rw[qv (show 0≤a∧a<n from ha2)] at hsa
 have hsb:=fun z y=>jY (E:=E) n z y b
 rw[qv (show 0≤b∧b<n from hb2)] at hsb
 have hla:=fun z y=>aU.lendP (E:=E) (i:=js) (T:=136) (fun _ _ _ h=>gT h) (hsa z y)
 have hlb:=fun z y=>aU.lendP (E:=E) (i:=js) (T:=136) (fun _ _ _ h=>gT h) (hsb z y)
 unfold oS
 refine zo func66 Z (by decide) Z<|ah<|ab Z<|z6<|zd<|zd<|yg (γ:=Bool) [0,1,2,3] (fun u=>[(34,.bool u)]) (fun u=>[(js,.cells 136 [.int .i64 n,.own jl l.length,.own jm M.length]),(jl,.grow 3 180 (l.map bM).flatten),(jm,.grow 1 3 (cI M))]) (fun u=>u=!decide (-bw≤c∧c≤bw∧l.length<8192)) ?_ (fun _ _ h=>h) ?_
 ·refine aV<|aR Z<|aa Z<|zr Z (zm (.l (.r (.r (.rest _))))) (hla (.own jl l.length) (.own jm M.length)) ?_
  rintro r11 O11 ⟨rfl,rfl⟩
  refine aD Z<|ai Z<|z8 Z Z Z<|aR Z<|z8 Z Z Z<|aa Z<|z8 Z Z Z<|zr Z (zm (.l (.r (.r (.rest _))))) (hlb (.own jl l.length) (.own jm M.length)) ?_
  rintro r16 O16 ⟨rfl,rfl⟩
  refine z8 Z Z Z<|aD Z<|au Z Z Z<|ai Z<|zp (s:=19) Z (fun c1=>?_) (fun c1=>?_)
  ·refine z7 Z Z c1<|z7 Z Z c1<|ar Z c1 Z<|ai Z<|z7 Z Z Z<|z7 Z Z Z<|ar Z Z Z<|ai Z<|z7 Z Z Z<|z7 Z Z Z<|z7 Z Z Z<|z7 Z Z Z<|z7 Z Z Z<|z7 Z Z Z<|ar Z Z Z<|z6 ?_
   exact ⟨_,iS,aJ,aE,rl (by rw[qr];simp_all<;>omega)⟩
  ·refine z8 Z Z c1<|aa Z<|z8 Z Z c1<|aw Z Z<|au Z c1 Z<|ai Z<|zp (s:=23) Z (fun c2=>?_) (fun c2=>?_)
   ·refine z7 Z Z c2<|z7 Z Z c2<|ar Z c2 Z<|ai Z<|z7 Z Z Z<|z7 Z Z Z<|z7 Z Z Z<|z7 Z Z Z<|z7 Z Z Z<|z7 Z Z Z<|ar Z Z Z<|z6 ?_
    exact ⟨_,iS,aJ,aE,rl (by rw[qr];simp_all<;>omega)⟩
   ·refine z8 Z Z c2<|aa Z<|z8 Z Z c2<|za (yx Z Z)<|au Z c2 Z<|ai Z<|zp (s:=27) Z (fun c3=>?_) (fun c3=>?_)
    ·refine z7 Z Z c3<|z7 Z Z c3<|z7 Z Z c3<|z7 Z Z c3<|z7 Z Z c3<|z7 Z Z c3<|ar Z c3 Z<|z6 ?_
     exact ⟨_,iS,aJ,aE,rl (by rw[qr];simp_all<;>omega)⟩
    ·refine z8 Z Z c3<|aR Z<|z8 Z Z c3<|az Z<|z8 Z Z c3<|za (zn Ze Z Yt (by decide) Z Z)<|z8 Z Z c3<|za (zq (c:=.own _ _) isAgg134 Z ⟨_,.head⟩ Z)<|z8 Z Z c3<|za (Gv.lenO Yk Z)<|z8 Z Z c3<|za (q3 Z Z)<|au Z c3 Z<|z6 ?_
     exact ⟨_,iS,aJ,aE,rl (by rw[qr];simp_all<;>omega)⟩
 ·rintro u hu
  refine zu Z (fun cu=>?_) (fun cu=>?_)
  ·have hn:¬(-bw≤c∧c≤bw∧l.length<8192):=fun hq=>by rw[hu,qv hq] at cu;cases cu
   have hL:k4 l a b c=l:=by unfold k4;rw[if_neg hn]
   refine ah<|ab Z<|z6<|zh<|zk (x:=.bool _) Z ?_
   exact ⟨(jl,false),rfl,⟨_,.refl _,by rw[hL]⟩,trivial⟩
  ·have hy:-bw≤c∧c≤bw∧l.length<8192:=Classical.byContradiction fun hq=>by rw[hu,qw hq] at cu;simp at cu
   have hL:k4 l a b c=l++[⟨a,b,c⟩]:=by unfold k4;rw[if_pos hy]
   refine zg<|ah<|aR Z<|aR Z<|az Z<|za (zn Ze Z Yt (by decide) Z Z)<|za (zq (c:=.own _ _) isAgg134 Z ⟨_,.head⟩ Z)<|aa Z<|aa Z<|aa Z<|za (y4 (cps:=[(0,[_]),(1,[_]),(2,[_])]) (rs:=[_,_,_]) Eh Z Z Z)<|y3 (rows:=[[_,_,_]]) BO Z Z Z Z Z<|yj (k:=3) Yk type180 Z Z Z Z Z (fun _=>.t1) (vL l) (by decide) Z (by show (_+_)*24≤_;simp<;>omega) (by simp<;>omega)<|fun i45=>az Z<|za (zn Ze Z Yt (by decide) Z Z)<|yv (l:=[_]) (new:=[_,_,_]) Yt Z Z Z Z Z Z .head Z Z<|z6<|ah<|ab Z<|z6<|zh<|zk (x:=.bool _) Z ?_
   exact ⟨(i45,true),rfl,⟨_,.refl _,by rw[hL,qt,List.flatten_append,qo];rfl⟩,trivial⟩
theorem uI (js jl jm n:Nat) (l:List fw) (M:List Int) (hll:l.length≤10000) (hm:M.length≤1000) :
  aU prog E 68 [.po js 0] (oS js jl jm n l M) (fun y O=>∃g:Nat,y=.tup []∧O=oS js jl g n l (M++[(l.length:Int)])∧True):=by
 refine yz (γ:=Nat) (x:=fun g=>.tup []) (M:=fun g=>oS js jl g n l (M++[(l.length:Int)])) (p:=fun _=>True) ?_
 unfold oS
 refine zo func68 Z (by decide) Z<|ah<|aR Z<|za (Gv.neqPo underlying71 type136 Z)<|z6<|yl Z Z<|zt (fun j=>Nat.beq j 14) (by kernel_rfl) Z (zm (.r (.rest _)))<|aj 0 Z (eF Z)<|aj 1 Z (eF Z)<|aj 2 Z (yb Z)<|aj 3 Z (zn Ze Z j5 (by decide) Z Z)<|aj 4 Z (zq (c:=.own _ _) j9 Z ⟨_,.head⟩ Z)<|aj 5 Z (eF Z)<|aj 6 Z (yb Z)<|aj 7 Z (zn Ze Z Yt (by decide) Z Z)<|aj 8 Z (zq (c:=.own _ _) isAgg134 Z ⟨_,.head⟩ Z)<|aj 9 Z (Gv.lenO Yk Z)<|aY 10 Z<|y3 (rows:=[[_]]) cf Z Z Z Z Z<|z6<|aY 11 Z<|yj (k:=1) wx type3 Z Z Z Z Z (fun _=>.t1) (by simp[cI]) (by decide) Z (by show (_+_)*8≤_;simp<;>omega) (by simp<;>omega)<|fun i15=>z6<|q5 (i:=12) Z (by kernel_rfl) (by kernel_rfl) (by kernel_rfl) (by kernel_rfl) (yb Z)<|aj 13 Z (zn Ze Z j5 (by decide) Z Z)<|ym<|yk (i:=14) Z (by kernel_rfl) (by kernel_rfl)<|yv (l:=[_]) (new:=[_,_,_]) j5 Z Z Z Z Z Z .head Z Z<|z6<|yq (by kernel_rfl)<|yp ?_
 exact ⟨i15,rfl,⟨_,.refl _,by rw[qo,←tR];rfl⟩,trivial⟩
theorem td (js jl jm n:Nat) (l:List fw) (M:List Int) :
  aU prog E 121 [.po js 0] (oS js jl jm n l M) (fun y O=>y=.int .i64 M.length∧O=oS js jl jm n l M):=by
 unfold oS
 refine zo func121 Z (by decide) Z<|ah<|ao Z<|z6<|zd<|ah<|aR Z<|za (Gv.eqlPo underlying71 type136 Z)<|z6<|ye Z Z<|zg<|ah<|aR Z<|az Z<|za (zn Ze Z j5 (by decide) Z Z)<|za (zq (c:=.own _ _) j9 Z ⟨_,.head⟩ Z)<|za (Gv.lenO wx Z)<|ao Z<|z6<|zh<|zk (x:=.int _ _) Z ?_
 exact ⟨rfl,rfl⟩
theorem BP (l:List fw) (m:Nat):(l.map bM).flatten.take (m*3)=((l.take m).map bM).flatten:=by
 induction l generalizing m with
 |nil=>simp
 |cons q l ih=>
  cases m with
  |zero=>simp
  |succ m=>
   rw[List.map_cons,List.flatten_cons,List.take_succ_cons,List.map_cons,List.flatten_cons,←ih m,List.take_append]
   have e:(bM q).length=3:=rfl
   rw[List.take_of_length_le (by rw[e];omega),e,show (m+1)*3 - 3=m*3 by omega]
theorem BQ (M:List Int) (x:Int):(cI (M++[x])).take (M.length*1)=cI M:=by
 rw[←tR,Nat.mul_one,List.take_append_of_le_length (by rw[aQ];omega),List.take_of_length_le (by rw[aQ];omega)]
theorem zZ {α:Type} (M:List α) (x:α):(M++[x])[M.length]?=some x:=by simp
theorem xf (js jl jm n:Nat) (l:List fw) (M:List Int) (m:Nat) (hm:m≤l.length) (hM:M.length≤1000) :
  aU prog E 75 [.po js 0] (oS js jl jm n l (M++[(m:Int)])) (fun y O=>y=.bool true∧O=oS js jl jm n (l.take m) M):=by
 have hd:=td (E:=E) js jl jm n l (M++[(m:Int)])
 have hl1:(M++[(m:Int)]).length=M.length+1:=by simp
 unfold oS at hd ⊢
 refine zo func75 Z (by decide) Z<|ah<|ab Z<|z6<|zd<|ah<|aR Z<|zr Z (zm (.l (.l (.l (.rest _))))) (hd) ?_
 rintro r5 O5 ⟨rfl,rfl⟩
 refine ak Z Z<|z6<|ye Z (by rw[qw (by simp;omega)])<|zg<|ah<|aR Z<|az Z<|za (zn Ze Z j5 (by decide) Z Z)<|za (zq (c:=.own _ _) j9 Z ⟨_,.head⟩ Z)<|za (Gv.lenO wx Z)<|za (Gv.sub Z Z (by unfold oV;omega))<|ao Z<|z6<|zd<|zt (fun j=>Nat.beq j 15) (by kernel_rfl) Z (zm (.r (.rest _)))<|aj 0 Z (eF Z)<|aj 1 Z (eF Z)<|aj 2 Z (yb Z)<|aj 3 Z (zn Ze Z Yt (by decide) Z Z)<|aj 4 Z (zq (c:=.own _ _) isAgg134 Z ⟨_,.head⟩ Z)<|aj 5 Z (eF Z)<|aj 6 Z (yb Z)<|aj 7 Z (zn Ze Z j5 (by decide) Z Z)<|aj 8 Z (zq (c:=.own _ _) j9 Z ⟨_,.head⟩ Z)<|aj 9 Z (dF Z)<|aY 10 Z<|za (yu (j:=M.length) wx wz Z Z (by simp) ⟨_,.t1⟩ (by simp[cI]) (by simp))<|z6<|aY 11 Z<|za (q9 (j:=M.length) j6 Z ⟨_,.t1⟩ (zZ M (m:Int)))<|z6<|aY 12 Z<|ax.cutTo (j:=m) Yk sizeOf180 Z Z Z .head (by decide) (by rw[vL];omega)<|z6<|q5 (i:=13) Z (by kernel_rfl) (by kernel_rfl) (by kernel_rfl) (by kernel_rfl) (yb Z)<|aj 14 Z (zn Ze Z Yt (by decide) Z Z)<|ym<|yk (i:=15) Z (by kernel_rfl) (by kernel_rfl)<|yv (l:=[_]) (new:=[_,_,_]) Yt Z Z Z Z Z Z .head Z Z<|z6<|yq (by kernel_rfl) ?_
 refine ah<|aR Z<|aR Z<|az Z<|za (zn Ze Z j5 (by decide) Z Z)<|za (zq (c:=.own _ _) j9 Z ⟨_,.head⟩ Z)<|aa Z<|ax.cutTo (j:=M.length) wx wz Z Z (by simp) .t2 (by decide) (by simp[cI])<|az Z<|za (zn Ze Z j5 (by decide) Z Z)<|yv (l:=[_]) (new:=[_,_,_]) j5 Z Z Z Z Z Z .head Z Z<|z6<|ah<|ab Z<|z6<|zh<|zk (x:=.bool _) Z ?_
 exact ⟨rfl,by rw[BP,BQ,List.length_take,Nat.min_eq_left hm];rfl⟩
theorem xg (n:Nat) (hn:n≤1024):aU prog E 36 [.int .i64 n] [] (fun y O=>∃g:Nat × Nat × Nat,y=.po g.1 0∧O=oS g.1 g.2.1 g.2.2 n [] []∧True):=by
 refine yz (γ:=Nat × Nat × Nat) (x:=fun g=>.po g.1 0) (M:=fun g=>oS g.1 g.2.1 g.2.2 n [] []) (p:=fun _=>True) ?_
 unfold oS
 refine zo func36 Z (by decide) Z<|ah<|za (iR Z)<|z6<|zd<|zd<|yg (γ:=Bool) [0] (fun u=>[(8,.bool u)]) (fun u=>[]) (fun u=>u=false) ?_ (fun _ _ h=>h) ?_
 ·refine aV<|aa Z<|aw Z Z<|ai Z<|zp (s:=5) Z (fun c4=>?_) (fun c4=>?_)
  ·refine z7 Z Z c4<|z7 Z Z c4<|ar Z c4 Z<|z6 ?_
   exact ⟨_,aJ,aJ,aE,by simp_all<;>omega⟩
  ·refine z8 Z Z c4<|aa Z<|z8 Z Z c4<|za (yx Z Z)<|au Z c4 Z<|z6 ?_
   exact ⟨_,aJ,aJ,aE,by simp_all<;>omega⟩
 ·rintro u hu
  subst hu
  refine ye Z Z<|zg<|ah<|aa Z<|za (y4 (cps:=[(0,[_])]) (rs:=[_,.raw (.slice none 0 0),.raw (.slice none 0 0)]) Ei Z Z Z)<|yi (cs:=_) Z Z Z Z<|fun i11=>za (gk Z)<|z6<|ga (off:=1) (k:=3) (T:=180) (fun _=>.head) Z<|fun jl=>ga (off:=2) (k:=1) (T:=3) (fun _=>.t1) Z<|fun jm=>zy (zb (zc .head))<|zy (zb (zc .t1))<|zy (zb (zc .t2))<|zh<|zk (x:=.po _ _) Z ?_
  exact ⟨(i11,jl,jm),rfl,⟨_,.refl _,rfl⟩,trivial⟩
end Go.Proofs.YtdilpodccjlkgaaGreatDoor
