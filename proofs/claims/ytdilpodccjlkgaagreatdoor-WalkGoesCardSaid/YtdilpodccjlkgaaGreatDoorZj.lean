/- What is found among numbers; the fronts. No conditions but bounds. -/
import Derived.Test.YtdilpodccjlkgaaGreatDoorZe
import Derived.Test.YtdilpodccjlkgaaGreatDoorZi
import Derived.Test.YtdilpodccjlkgaaGreatDoorZh
import Derived.Test.YtdilpodccjlkgaaGreatDoorZc
set_option linter.unusedVariables false
set_option linter.unusedSimpArgs false
set_option linter.unusedSectionVars false
namespace Go.Proofs.YtdilpodccjlkgaaGreatDoor
open Go.Proofs.Tryz
def mF (l:List Bool) (bs:List Int):List Bool:=bs.foldl (fun l b=>l.set b.toNat true) l
theorem iS:∀(bs:List Int) (l:List Bool),(mF l bs).length=l.length
 |[],_=>rfl
 |b::bs,l=>by show (mF (l.set b.toNat true) bs).length=_;rw[iS bs,List.length_set]
theorem xj (l:List Bool) (bs:List Int) (b:Int):mF l (bs++[b])=(mF l bs).set b.toNat true:=by unfold mF;rw[List.foldl_append];rfl
theorem sw (k:Nat):∀(bs:List Int) (l:List Bool),(∀b∈bs,0≤b)→k<l.length→(mF l bs)[k]?=some (decide ((k:Int)∈bs)||(l[k]?).getD false)
 |[],l,_,hk=>by show l[k]?=_;rw[qt hk];simp
 |b::bs,l,h,hk=>by
  show (mF (l.set b.toNat true) bs)[k]?=_
  rw[sw k bs _ (fun c hc=>h c (.tail _ hc)) (by rw[List.length_set];exact hk),List.getElem?_set]
  have h0:=h b (.head _)
  by_cases e:b.toNat=k
  ·have:(k:Int)=b:=by omega
   rw[if_pos e,if_pos (by omega),this];simp
  ·have:¬(k:Int)=b:=by omega
   rw[if_neg e];simp[this]
def ga (E:Int→List Int) (n:Nat):List Bool:=mF (List.replicate n false) (aB E n)
theorem pP (E:Int→List Int) (n:Nat):(ga E n).length=n:=by unfold ga;rw[iS];simp
theorem pQ {E:Int→List Int} {n:Nat} (hE:EOk E n) {k:Nat} (hk:k<n):(ga E n)[k]?=some (decide ((k:Int)∈aB E n)):=by
 unfold ga
 rw[sw k _ _ (fun b hb=>(de hE hb).1) (by simp;exact hk)]
 simp[hk]
theorem l5 {f:ac} (hE:bW f):(ga (ah f) f.blocks.length).contains false=false↔CI f:=by
 have hG:=hE.grph.toEOk
 constructor
 ·intro h i hi
  have hg:=pQ hG hi
  apply (bP hG _).1
  apply Classical.byContradiction
  intro hn
  rw[w9 hn] at hg
  have:=w4 hg
  rw[Bool.eq_false_iff] at h
  exact h (by simpa using this)
 ·intro h
  rw[Bool.eq_false_iff]
  intro hc
  have hc:false∈ga (ah f) f.blocks.length:=by simpa using hc
  obtain ⟨k,hk,e⟩:=List.getElem_of_mem hc
  have hk2:=hk
  rw[pP] at hk2
  have hg:=pQ hG hk2
  rw[qt hk,e] at hg
  have hm:=(bP hG (k:Int)).2 (h k hk2)
  rw[w8 hm] at hg
  cases hg
def D9 (f:ac) (i:Nat) (p:dG):Bool:=decide (km p.from_=bd (ah f) f.blocks.length i)
def CZ (f:ac) (i:Nat):Bool:=((f.blocks[i]?).map fun b=>b.phis.all (D9 f i)).getD true
def dg (f:ac):Bool:=(List.range f.blocks.length).all (CZ f)
theorem lp {f:ac} {i:Nat} {b:aX} (h:f.blocks[i]?=some b):CZ f i=b.phis.all (D9 f i):=by unfold CZ;rw[h];rfl
theorem u6 (f:ac):dg f=true↔CH f:=by
 unfold dg CH
 rw[wb]
 constructor
 ·intro h i hi p hp
  have:=h i (List.mem_range.2 hi)
  rw[lp (qt hi),wb] at this
  exact nc.1 (by simpa [D9] using this p hp)
 ·intro h i hi
  have hi:=List.mem_range.1 hi
  rw[lp (qt hi),wb]
  intro p hp
  simpa [D9] using nc.2 (h i hi p hp)
theorem cM {p:Nat→Bool} {k:Nat} (h:(List.range k).all p=true) (hk:p k=true):(List.range (k+1)).all p=true:=by rw[List.range_succ,List.all_append,h];simp[hk]
theorem dT {p:Nat→Bool} {k n:Nat} (hk:k<n) (h:p k=false):(List.range n).all p=false:=by
 rw[Bool.eq_false_iff];intro ha
 have:=List.all_eq_true.1 ha k (List.mem_range.2 hk)
 rw[h] at this;cases this
def cA {α:Type} (n:Nat) (ev:List (Int × α)):List (List α):=(List.range n).map fun (v:Nat)=>(ev.filter fun e=>decide (e.1=(v:Int))).map (·.2)
theorem cN {α:Type} (n:Nat) (ev:List (Int × α)):(cA n ev).length=n:=by unfold cA;simp
theorem eT {α:Type} {n:Nat} (ev:List (Int × α)) {v:Nat} (h:v<n):(cA n ev)[v]?=some ((ev.filter fun e=>decide (e.1=(v:Int))).map (·.2)):=by unfold cA;rw[w2,List.getElem?_range h];rfl
theorem pR {α:Type} (n:Nat):List.replicate n []=cA (α:=α) n []:=by
 apply List.ext_getElem
 ·rw[cN];simp
 ·intro i h1 h2;unfold cA;simp
theorem jR {α:Type} {n:Nat} {ev:List (Int × α)} {v:Nat} (h:v<(cA n ev).length):(cA n ev)[v].length≤ev.length:=by
 have h2:v<n:=by rwa [cN] at h
 have:=eT ev h2
 rw[qt h] at this
 rw[Option.some.inj this,w1]
 exact List.length_filter_le _ _
theorem kQ {α:Type} {n:Nat} {ev:List (Int × α)} {c:Int} {x:α} (h0:0≤c) (h:c.toNat<(cA n ev).length):(cA n ev).set c.toNat ((cA n ev)[c.toNat]++[x])=cA n (ev++[(c,x)]):=by
 have h2:c.toNat<n:=by rwa [cN] at h
 apply List.ext_getElem?
 intro v
 rw[List.getElem?_set]
 by_cases hv:v<n
 ·rw[eT _ hv]
  have hr:=eT ev h2
  rw[qt h] at hr
  rw[Option.some.inj hr]
  by_cases e:c.toNat=v
  ·have:c=(v:Int):=by omega
   rw[if_pos e,if_pos (by rw[cN];omega),eT _ hv]
   have e2:((c.toNat:Nat):Int)=c:=by omega
   rw[e2,this,List.filter_append,w5]
   simp
  ·have:¬c=(v:Int):=by omega
   rw[if_neg e,eT _ hv]
   simp[List.filter_append,this]
 ·have hn:(cA n (ev++[(c,x)]))[v]?=none:=List.getElem?_eq_none (by rw[cN];omega)
  rw[if_neg (by omega),hn,List.getElem?_eq_none (by rw[cN];omega)]
def dH (i:Nat) (ps:List dG):List (Int × gA):=ps.map fun p=>(p.dst,((i:Int),-1))
def gq (i:Nat) (xs:List aF):List (Int × gA):=(xs.zipIdx.filter fun x=>decide (0≤x.1.dst)).map fun x=>(x.1.dst,((i:Int),(x.2:Int)))
def pS (i:Nat) (b:aX):List (Int × gA):=dH i b.phis++gq i b.insts
def dC (f:ac) (k:Nat):List (Int × gA):=((f.blocks.take k).zipIdx).flatMap fun b=>pS b.2 b.1
theorem tv {α:Type} {l:List α} {k:Nat} (h:k<l.length):(l.take (k+1)).zipIdx=(l.take k).zipIdx++[(l[k],k)]:=by
 rw[qu h,List.zipIdx_append,w7,Nat.min_eq_left (by omega)]
 simp
theorem lu (i:Nat) {ps:List dG} {j:Nat} (h:j<ps.length):dH i (ps.take (j+1))=dH i (ps.take j)++[(ps[j].dst,((i:Int),-1))]:=by
 unfold dH;rw[qu h,w5];rfl
theorem iT (i:Nat) {xs:List aF} {j:Nat} (h:j<xs.length):gq i (xs.take (j+1))=gq i (xs.take j)++if 0≤xs[j].dst then[(xs[j].dst,((i:Int),(j:Int)))] else[]:=by
 unfold gq;rw[tv h,List.filter_append,w5]
 by_cases h0:0≤xs[j].dst
 ·simp[h0]
 ·simp[h0]
theorem gc {f:ac} {k:Nat} (h:k<f.blocks.length):dC f (k+1)=dC f k++pS k f.blocks[k]:=by
 unfold dC;rw[tv h,List.flatMap_append];simp
theorem pT (i:Nat) (xs:List aF):(gq i xs).length≤xs.length:=by
 unfold gq;rw[w1];exact Nat.le_trans (List.length_filter_le _ _) (by simp)
theorem C0 (i:Nat) (b:aX):(pS i b).length≤b.phis.length+b.insts.length:=by
 have:=pT i b.insts
 unfold pS dH;rw[qz,w1];omega
theorem u7 {f:ac} {m:Nat} (h:∀b∈f.blocks,b.phis.length+b.insts.length≤m):∀k,k≤f.blocks.length→(dC f k).length≤k*m
 |0,_=>by simp[dC]
 |k+1,hk=>by
  have h1:=u7 h k (by omega)
  have h2:=C0 k f.blocks[k]
  have h3:=h _ (qx (show k<f.blocks.length by omega))
  rw[gc (by omega),qz,Nat.add_mul];omega
theorem ER (i v:Nat) (b:aX):((pS i b).filter fun e=>decide (e.1=(v:Int))).map (·.2)=sm v i b:=by
 unfold pS dH gq sm
 rw[List.filter_append,w5,List.filter_map,List.map_map,List.filter_map,List.map_map,List.filter_filter]
 congr 1
 congr 1
 apply List.filter_congr
 intro x _
 by_cases e:x.1.dst=(v:Int)
 ·have:0≤x.1.dst:=by omega
  simp[e]
 ·simp[e]
theorem mG (f:ac) (v:Nat):((dC f f.blocks.length).filter fun e=>decide (e.1=(v:Int))).map (·.2)=bu f v:=by
 unfold dC bu
 rw[qy,List.filter_flatMap,List.map_flatMap]
 congr 1
 funext b
 exact ER b.2 v b.1
def pU (f:ac):List (List gA):=cA f.vars.length (dC f f.blocks.length)
theorem pV {f:ac} {v:Nat} (h:v<f.vars.length):(pU f)[v]?=some (bu f v):=by unfold pU;rw[eT _ h,mG]
theorem xk (f:ac):(pU f).length=f.vars.length:=cN _ _
def iU (f:ac) (v:Nat):Bool:=!(decide (1<(bu f v).length)||decide (0<(bu f v).length)&&decide (v<f.params.length))
def lK (f:ac):Bool:=(List.range f.vars.length).all (iU f)
theorem A7 (f:ac):lK f=true↔yV f:=by
 unfold lK yV iU
 rw[wb]
 constructor
 ·intro h v hv
  have:=h v (List.mem_range.2 hv)
  simp only[Bool.not_eq_true',Bool.or_eq_false_iff,Bool.and_eq_false_iff,decide_eq_false_iff_not] at this
  refine ⟨by omega,fun hne=>?_⟩
  have hl:=List.length_pos_iff.2 hne
  rcases this.2 with h1|h1<;>omega
 ·intro h v hv
  obtain ⟨h1,h2⟩:=h v (List.mem_range.1 hv)
  simp only[Bool.not_eq_true',Bool.or_eq_false_iff,Bool.and_eq_false_iff,decide_eq_false_iff_not]
  refine ⟨by omega,?_⟩
  by_cases e:bu f v=[]
  ·left;rw[e];simp
  ·right;have:=h2 e;omega
def cf (f:ac):List gA:=(List.range f.vars.length).map fun (v:Nat)=>aL f v
theorem nQ {f:ac} {v:Nat} (h:v<f.vars.length):(cf f)[v]?=some (aL f v):=by unfold cf;rw[w2,List.getElem?_range h];rfl
theorem kR (f:ac):(cf f).length=f.vars.length:=by simp[cf]
def ff (f:ac) (m:gA) (b at_:Int):Bool:=if m.1<0 then true else if m.1=b then decide (m.2<at_) else fM (ah f) f.blocks.length m.1 b
theorem ia {f:ac} (hE:bW f) (m:gA) (b at_:Int):ff f m b at_=true↔cY f m b at_:=by
 unfold ff cY
 by_cases h0:m.1<0
 ·rw[if_pos h0];simp[h0]
 ·rw[if_neg h0]
  by_cases h1:m.1=b
  ·rw[if_pos h1];simp[h1];omega
  ·rw[if_neg h1,hE.grph.domB_iff]
   constructor
   ·intro h;exact .inr (.inr ⟨by omega,h1,h⟩)
   ·rintro (h|h|h)
    ·exact absurd h h0
    ·exact absurd h.1 h1
    ·exact h.2.2
def Gz (f:ac) (p:dG):Bool:=(p.args.zip p.from_).all fun q=>ff f (aL f q.1) q.2 (fE f q.2)
def C1 (f:ac) (i:Nat) (x:aF × Nat):Bool:=x.1.args.all fun v=>ff f (aL f v) i x.2
def Hc (f:ac) (i:Nat) (b:aX):Bool:=decide (b.term.kind=0)||ff f (aL f b.term.var) i b.insts.length
def rI (f:ac) (i:Nat) (b:aX):Bool:=b.phis.all (Gz f)&&b.insts.zipIdx.all (C1 f i)&&Hc f i b
def HG (f:ac) (i:Nat):Bool:=((f.blocks[i]?).map (rI f i)).getD true
def xl (f:ac):Bool:=(List.range f.blocks.length).all (HG f)
theorem pW {f:ac} {i:Nat} {b:aX} (h:f.blocks[i]?=some b):HG f i=rI f i b:=by unfold HG;rw[h];rfl
theorem u9 {f:ac} (hE:bW f) (i:Nat) (b:aX):rI f i b=true↔tg f i b:=by
 unfold rI tg
 rw[wa,wa,and_assoc]
 refine and_congr ?_ (and_congr ?_ ?_)
 ·rw[wb]
  refine forall_congr' fun p=>forall_congr' fun _=>?_
  unfold Gz
  rw[wb]
  exact forall_congr' fun q=>forall_congr' fun _=>ia hE _ _ _
 ·rw[wb]
  constructor
  ·intro h k hk v hv
   have:=h (b.insts[k],k) (List.mem_zipIdx_iff_getElem?.2 (qt hk))
   unfold C1 at this
   rw[wb] at this
   exact (ia hE _ _ _).1 (this v hv)
  ·intro h x hx
   have hx:=List.mem_zipIdx_iff_getElem?.1 hx
   obtain ⟨hk,e⟩:=List.getElem?_eq_some_iff.1 hx
   unfold C1
   rw[wb]
   intro v hv
   exact (ia hE _ _ _).2 (h x.2 hk v (by rw[e];exact hv))
 ·unfold Hc
  rw[Bool.or_eq_true,wg,ia hE]
theorem C2 {f:ac} (hE:bW f):xl f=true↔Gr f:=by
 unfold xl Gr
 rw[wb]
 constructor
 ·intro h i hi
  have:=h i (List.mem_range.2 hi)
  rw[pW (qt hi)] at this
  exact (u9 hE _ _).1 this
 ·intro h i hi
  have hi:=List.mem_range.1 hi
  rw[pW (qt hi)]
  exact (u9 hE _ _).2 (h i hi)
def dD (f:ac):Bool:=dg f&&(!(ga (ah f) f.blocks.length).contains false&&(lK f&&xl f))
theorem A8 {f:ac} (hE:bW f):dD f=true↔CJ f:=by
 unfold dD CJ
 rw[wa,wa,wa,Bool.not_eq_true',u6,l5 hE,A7,C2 hE]
end Go.Proofs.YtdilpodccjlkgaaGreatDoor
namespace Go.Proofs.YtdilpodccjlkgaaGreatDoor
open Go.Proofs.Tryz
open Go.Proofs Go.Lib Go.Shelf Go.RowKit
variable {E:World}
set_option maxRecDepth 20000
theorem jS (f:ac) (hf:small f) (hL:bz E):aM prog E 64 [.agg (bE f)] (.bool (bi f)):=by
 refine zp func64 Z (by decide) Z<|ai<|ya (cs:=_) Z Z Z<|ab Z<|z6<|ai<|ae jv jj Z Z<|zh (pO f hf hL) Z<|ak Z Z<|ab Z<|z6<|zg<|zn (x:=.bool _) Z ?_
 cases bi f<;>rfl
theorem dO {f:ac} (h:bi f=true):bW f:=by
 unfold bi at h
 rw[wa,hU] at h
 exact (wd h.1).ends
theorem nR (f:ac) (hf:small f) (hL:bz E) (ht:bi f=true):aM prog E 35 [.agg (bE f)] (lG eI (cT f f.blocks.length)):=by
 have hn:=hf.2.2.1
 refine zp func35 Z (by decide) Z<|ai<|ya (cs:=_) Z Z Z<|za (jI Z)<|z6<|zd<|ai<|ae jv jj Z Z<|zh (jS f hf hL) Z<|aC Z<|z6<|yg Z (by rw[ht];rfl)<|zi<|ai<|ae jv jj Z Z<|zh (pA f (dO ht) (by omega)) Z<|za (nI Z)<|z6<|zg<|zn (x:=.fro _ _) Z ?_
 rfl
theorem nS (f:ac) (hE:bW f) (hn:f.blocks.length≤1000):aM prog E 98 [.agg (bE f)] (.fro 1 ((aB (ah f) f.blocks.length).map cX)):=
 xa f hE (by omega) fun l i T h=>uN l i T h
theorem va (f:ac) (hf:small f) (hL:bz E) (ht:bi f=true):aM prog E 58 [.agg (bE f)] (.fro 1 ((aB (ah f) f.blocks.length).map cX)):=by
 have hn:=hf.2.2.1
 refine zp func58 Z (by decide) Z<|ai<|ya (cs:=_) Z Z Z<|za (jI Z)<|z6<|zd<|ai<|ae jv jj Z Z<|zh (jS f hf hL) Z<|aC Z<|z6<|yg Z (by rw[ht];rfl)<|zi<|ai<|ae jv jj Z Z<|zh (nS f (dO ht) (by omega)) Z<|za (nI Z)<|z6<|zg<|zn (x:=.fro _ _) Z ?_
 rfl
def A9 (x:Bool):List AV:=[.bool x]
theorem xm (f:ac) (hE:bW f) (hn:f.blocks.length≤1000):aM prog E 129 [.agg (bE f)] (.fro 1 ((ga (ah f) f.blocks.length).map A9)):=by
 have hG:=hE.grph
 have hol:=eZ hG
 refine zp func129 Z (by decide) Z<|ai<|ya (cs:=_) Z Z Z<|za (jI Z)<|z6<|ai<|au jg Z Z8 Z Z<|aI Zg Z<|aq ju Z<|az.makeB (m:=f.blocks.length) jk Yp Z Z Z Z Z (by simp) (by simp) (by show (1:Int)*_≤_;omega) (by omega)<|fun i9=>za (eD Z)<|z6<|zd<|ai<|ae jv jj Z Z<|zh (nS f hE hn) Z<|aq wy Z<|aa Z<|z6<|zm<|y8 (γ:=Nat) [3,11,12] (fun k=>[(13,.int .i64 k)]) (fun k=>[(i9,.grow 1 4 (cB (mF (List.replicate f.blocks.length false) ((aB (ah f) f.blocks.length).take k))))]) (fun k=>k≤(aB (ah f) f.blocks.length).length) (fun k=>(aB (ah f) f.blocks.length).length - k) 0 aK aH (qw _) ?_
 rintro k hk
 refine ai<|ay Z Z<|z6<|zd<|zt Z (fun ck=>?_) (fun ck=>?_)
 ·have hk2:k<(aB (ah f) f.blocks.length).length:=by simp at ck;omega
  obtain ⟨b,hb⟩:∃b,(aB (ah f) f.blocks.length)[k]=b:=⟨_,rfl⟩
  have hr:=de hG.toEOk (hb▸qx hk2)
  refine zi<|zd<|zm<|ai<|za (bv k wy wz Z Z Z (by rw[qt hk2,hb])) ?_
  refine aA j6 Z<|ao Z<|z6<|aW<|za (im Z)<|aa Z<|za (yi (j:=b.toNat) jk Z6 Z Z (by omega) ⟨_,.head⟩ (by rw[aN,iS];simp) (by omega))<|qb (j:=b.toNat) Z6 Z Z .head (by rw[iS];simp;omega)<|z6<|aW<|aE Z Z<|aa Z<|z6 ?_
  exact ⟨k+1,db,aK,⟨_,(.refl _),by rw[qu hk2,xj,hb]⟩,hk2,by omega⟩
 ·have hkn:k=(aB (ah f) f.blocks.length).length:=by simp at ck;omega
  subst hkn
  rw[qy]
  refine y6<|ai<|za (im Z)<|za (eD Z)<|z6<|zz (aS.knowB (t:=2) Z .head (by rw[iS];simp))<|zg<|zn (x:=.fro _ _) Z ?_
  rfl
theorem vb (f:ac) (hf:small f) (hL:bz E) (ht:bi f=true):aM prog E 94 [.agg (bE f)] (.fro 1 ((ga (ah f) f.blocks.length).map A9)):=by
 have hn:=hf.2.2.1
 refine zp func94 Z (by decide) Z<|ai<|ya (cs:=_) Z Z Z<|za (jI Z)<|z6<|zd<|ai<|ae jv jj Z Z<|zh (jS f hf hL) Z<|aC Z<|z6<|yg Z (by rw[ht];rfl)<|zi<|ai<|ae jv jj Z Z<|zh (xm f (dO ht) (by omega)) Z<|za (nI Z)<|z6<|zg<|zn (x:=.fro _ _) Z ?_
 rfl
theorem ve (xs:List Bool) (v:Bool) (hl:xs.length≤281474976710656):aM prog E 128 [.fro 1 (xs.map A9),.bool v] (.int .i64 (cE (fun x=>decide (v=x)) xs 0)):=by
 refine zp func128 Z (by decide) Z<|ai<|ao Z<|z6<|zd<|ai<|be Z<|aq jk Z<|aa Z<|z6<|zm<|y8 (γ:=Nat) [0,1,7] (fun k=>[(8,.int .i64 k)]) (fun k=>[]) (fun k=>k≤xs.length∧(xs.take k).all (fun x=>!decide (v=x))) (fun k=>xs.length - k) 0 aK aH (⟨qw _,Z⟩) ?_
 rintro k ⟨hk,hall⟩
 refine ai<|ay Z Z<|z6<|zd<|zt Z (fun ck=>?_) (fun ck=>?_)
 ·have hk2:k<xs.length:=by simp at ck;omega
  refine zi<|zd<|zm<|ai<|aa Z<|ao Z<|z6<|ai<|aj Z<|be Z<|aa Z<|za (bv k jk Z6 Z Z Z (qt hk2))<|za (yx (c:=.bool _) Ym Z)<|za (Gv.eqlB Y7 Z Z)<|z6<|zy Z (fun cp=>?_) (fun cp=>?_)
  ·refine ai<|aa Z<|ao Z<|z6<|zg<|zn (x:=.int _ _) Z ?_
   rw[bF _ xs k hk hall,List.drop_eq_getElem_cons hk2,cE,if_pos (by simpa using cp)]
  ·refine zi<|aW<|aE Z Z<|aa Z<|z6 ?_
   exact ⟨k+1,db,aK,aH,⟨hk2,by rw[qu hk2,List.all_append,hall];simpa using cp⟩,by omega⟩
 ·have hkn:k=xs.length:=by simp at ck;omega
  refine y6<|ai<|ao Z<|z6<|zg<|zn (x:=.int _ _) Z ?_
  rw[bF _ xs k hk hall,hkn,List.drop_length,cE]
theorem pX (xs:List Bool) (v:Bool) (hl:xs.length≤281474976710656):aM prog E 93 [.fro 1 (xs.map A9),.bool v] (.bool (xs.contains v)):=by
 refine zp func93 Z (by decide) Z<|ai<|ab Z<|z6<|ai<|be Z<|aj Z<|zh (ve xs v hl) Z<|za (q5 Z Z)<|ab Z<|z6<|zg<|zn (x:=.bool _) Z ?_
 rw[eX];congr 1;rw[w3];simp
theorem GA (xs:List Int) (hl:xs.length≤1000):aY prog E 120 [.fro 1 (xs.map cX)] [] (fun x O'=>∃i:Nat,x=.own i xs.length∧O'=[(i,.grow 1 3 (cI xs))]):=by
 refine zp func120 Z (by decide) Z<|ai<|za (jI Z)<|z6<|zd<|ai<|be Z<|az.isNil wy Z Z (fun hnil=>?_) ?_
 ·have hx:xs=[]:=by simpa using hnil
  subst hx
  refine z6<|yt Z Z<|ai<|za (jI Z)<|z6<|zg ?_
  repeat (first|refine gO ?_|refine fA ?_)
  refine rY (s:=2) (k:=1) (T:=3) Z (fun i=>?_)
  refine zn (x:=.own _ _) Z ?_
  exact ⟨i,rfl,rfl⟩
 ·refine z6<|yg Z Z<|zi<|ai<|yj (k:=1) wy Y1<|fun i5=>be Z<|yu (k:=1) wy Y1 Z Z Z Z Z (fun _=>.head) (by simp) (by decide) (uU (fun _=>Z) xs) (by show (_+_)*8≤_;simp<;>omega) (by simp<;>omega)<|fun i7=>za (eD Z)<|z6<|zg<|zn (x:=.own _ _) Z ?_
  exact ⟨i7,(by simp),by rw[←oF];rfl⟩
theorem jT (f:ac) {k:Nat} (h:k<f.blocks.length):(cT f f.blocks.length)[k]?=some (bd (ah f) f.blocks.length (k:Int)):=by unfold cT;rw[w2,List.getElem?_range h];rfl
theorem vf (f:ac) (hE:bW f) (hf:small f):aM prog E 127 [.agg (bE f)] (.bool (dg f)):=by
 have hn:=hf.2.2.1
 refine zp func127 Z (by decide) Z<|ai<|ya (cs:=_) Z Z Z<|ab Z<|z6<|ai<|ae jv jj Z Z<|zh (pA f hE (by omega)) Z<|za (nI Z)<|z6<|zd<|ai<|au jg Z Z8 Z Z<|aI Zg Z<|aq ju Z<|aa Z<|z6<|zm<|y8 (γ:=Nat) [3,12,13] (fun k=>[(14,.int .i64 k)]) (fun k=>[]) (fun k=>k≤f.blocks.length∧(List.range k).all (CZ f)=true) (fun k=>f.blocks.length - k) 0 aK aH (⟨qw _,Z⟩) ?_
 rintro k ⟨hk,hall⟩
 refine ai<|ay Z Z<|z6<|zd<|zt Z (fun ck=>?_) (fun ck=>?_)
 ·have hk2:k<f.blocks.length:=by simp at ck;omega
  obtain ⟨b,hbk⟩:∃b,f.blocks[k]=b:=⟨_,rfl⟩
  have hget:f.blocks[k]?=some b:=by rw[qt hk2,hbk]
  obtain ⟨hb0,hb1,hb2,hb3,hb4⟩:=hf.2.2.2.2 b (hbk▸qx hk2)
  refine zi<|zd<|zm<|ai<|aa Z<|za (bv k ju jx Z Z Z hget)<|ae Yo jx Z Z<|y7 (cs:=[.str ⟨#[]⟩,.raw (.slice none 0 0),.raw (.slice none 0 0),.int .i64 0,.int .i64 0,.int .i64 0,.int .i64 0]) Zl Z Z<|fun i5=>ao Z<|y1 jx Z Z Z Z Z Z .head Z<|ze (yd (t:=5) Z .head)<|z6<|ai<|au ji Z Yl Z Z<|aI Yv Z<|aq Z3 Z<|aa Z<|z6<|zm<|y8 (γ:=Nat) [3,4,12,13,14,20,21] (fun j=>[(22,.int .i64 j)]) (fun j=>[]) (fun j=>j≤b.phis.length∧(b.phis.take j).all (D9 f k)=true) (fun j=>b.phis.length - j) 0 aK aH (⟨qw _,Z⟩) ?_
  rintro j ⟨hj,hjall⟩
  refine ai<|ay Z Z<|z6<|zd<|zt Z (fun cj=>?_) (fun cj=>?_)
  ·have hj2:j<b.phis.length:=by simp at cj;omega
   have hpf:=(hb3 _ (qx hj2)).2
   refine zi<|zd<|zm<|ai<|za (bv j Z3 Zb Z Z Z (qt hj2))<|ae X1 Zb Z Z<|y7 (cs:=[.int .i64 0,.raw (.slice none 0 0),.raw (.slice none 0 0)]) Yg Z Z<|fun i7=>y1 Zb Z Z Z Z Z Z .head Z<|ze (yd (t:=7) Z .head)<|z6<|ai<|au jz Z j7 Z Z<|aI jf Z<|zu Z (zj (.rest _)) (GA b.phis[j].from_ hpf) ?_
   rintro r28 O28 ⟨i8,rfl,rfl⟩
   refine za (eD Z)<|z6<|ai<|za (im Z)<|zu Z (zj (.l (.rest _))) (uO b.phis[j].from_ i8 _ (by omega)) ?_
   rintro r30 O30 ⟨rfl,rfl⟩
   refine z6<|zz (aS.knowI (t:=8) Z .head (by rw[(eN _).length_eq]))<|ai<|be Z<|be Z<|aa Z<|za (bv k jh j7 Z Z Z (jT f hk2))<|aI jf Z<|zh (nL (km b.phis[j].from_) (bd (ah f) f.blocks.length (k:Int)) (by unfold pn;rw[(eN _).length_eq];omega)) Z<|aC Z<|z6<|zy Z (fun cq=>?_) (fun cq=>?_)
   ·refine ai<|ab Z<|z6<|zg<|zn (x:=.bool _) Z ?_
    rw[show dg f=false from dT hk2 (by rw[lp hget];exact Bool.eq_false_iff.2 (df hj2 (by simpa [D9] using cq)))]
   ·refine zi<|aW<|aE Z Z<|aa Z<|z6 ?_
    exact ⟨j+1,lf,aK,aH,⟨hj2,bJ hj2 hjall (by simpa [D9] using cq)⟩,by omega⟩
  ·have hjn:j=b.phis.length:=by simp at cj;omega
   subst hjn
   rw[qy] at hjall
   refine y6<|aW<|aE Z Z<|aa Z<|z6 ?_
   exact ⟨k+1,db,aK,aH,⟨hk2,cM hall (by rw[lp hget];exact hjall)⟩,by omega⟩
 ·have hkn:k=f.blocks.length:=by simp at ck;omega
  subst hkn
  refine y6<|ai<|ab Z<|z6<|zg<|zn (x:=.bool _) Z ?_
  rw[show dg f=true from hall]
theorem tw (f:ac) (hf:small f) (hL:bz E):aM prog E 92 [.agg (bE f)] (.int .i64 (if (bi f&&dg f)=true then 0 else 3)):=by
 refine zp func92 Z (by decide) Z<|ai<|ya (cs:=_) Z Z Z<|ao Z<|z6<|zd<|ai<|ae jv jj Z Z<|zh (jS f hf hL) Z<|aC Z<|aj Z<|zq (s:=6) Z (fun ct=>?_) (fun ct=>?_)
 ·refine z7 Z Z ct<|z7 Z Z ct<|z7 Z Z ct<|aw Z ct Z<|z6<|yt Z Z<|ai<|ao Z<|z6<|zg<|zn (x:=.int _ _) Z ?_
  rw[show bi f=false by simpa using ct];rfl
 ·have ht:bi f=true:=by simpa using ct
  refine z8 Z Z ct<|ae jv jj Z Z<|z8 Z Z ct<|zh (vf f (dO ht) hf) Z<|z8 Z Z ct<|aC Z<|ax Z ct Z<|z6<|zy Z (fun cj=>?_) (fun cj=>?_)
  ·refine ai<|ao Z<|z6<|zg<|zn (x:=.int _ _) Z ?_
   rw[show dg f=false by simpa using cj];simp
  ·refine zi<|ai<|ao Z<|z6<|zg<|zn (x:=.int _ _) Z ?_
   rw[ht,show dg f=true by simpa using cj];rfl
end Go.Proofs.YtdilpodccjlkgaaGreatDoor
namespace Go.Proofs.YtdilpodccjlkgaaGreatDoor
open Go.Proofs.Tryz
section
variable {S:Int→List Int} {at_:Int→Int} {V:List Int} {N:Int→Int}
theorem Ba (hV:rn S at_ V) (hN:iF S at_ V N) {K:Nat} (hK:∀a b,a∈V→b∈V→at_ a+at_ b<K) {x y:Int} (hx:N x≠-1) (hy:N y≠-1) (hlt:at_ y<at_ x) :
  x≠0∧N (N x)≠-1∧at_ (N x)<at_ x∧dV N at_ K x y=dV N at_ K (N x) y:=by
 have h1:=(hV.pos x).1 (hN.mem x hx)
 have h2:=(hV.pos y).1 (hN.mem y hy)
 have h3:=hK x y (hN.mem x hx) (hN.mem y hy)
 have hx0:x≠0:=fun e=>by rw[e,hV.zero] at hlt;omega
 obtain ⟨g1,g2,g3⟩:=hN.near x hx0 hx
 refine ⟨hx0,g2,g3,?_⟩
 obtain ⟨k,rfl⟩:∃k,K=k+1:=⟨K - 1,by omega⟩
 have hm:=lh hV hN k (k+1) (N x) y g2 hy (by omega) (by omega)
 rw[hm]
 show (if x=y then x else if at_ y<at_ x then dV N at_ k (N x) y else dV N at_ k x (N y))=_
 rw[if_neg (fun e=>by rw[e] at hlt;omega),if_pos hlt]
theorem xn (hV:rn S at_ V) (hN:iF S at_ V N) {K:Nat} (hK:∀a b,a∈V→b∈V→at_ a+at_ b<K) {x y:Int} (hx:N x≠-1) (hy:N y≠-1) (hlt:at_ x<at_ y) :
  y≠0∧N (N y)≠-1∧at_ (N y)<at_ y∧dV N at_ K x y=dV N at_ K x (N y):=by
 have h1:=(hV.pos x).1 (hN.mem x hx)
 have h2:=(hV.pos y).1 (hN.mem y hy)
 have h3:=hK x y (hN.mem x hx) (hN.mem y hy)
 have hy0:y≠0:=fun e=>by rw[e,hV.zero] at hlt;omega
 obtain ⟨g1,g2,g3⟩:=hN.near y hy0 hy
 refine ⟨hy0,g2,g3,?_⟩
 obtain ⟨k,rfl⟩:∃k,K=k+1:=⟨K - 1,by omega⟩
 have hm:=lh hV hN k (k+1) x (N y) hx g2 (by omega) (by omega)
 rw[hm]
 show (if x=y then x else if at_ y<at_ x then dV N at_ k (N x) y else dV N at_ k x (N y))=_
 rw[if_neg (fun e=>by rw[e] at hlt;omega),if_neg (by omega)]
theorem Bb {K:Nat} (hK:0<K) (x:Int):dV N at_ K x x=x:=by
 obtain ⟨k,rfl⟩:∃k,K=k+1:=⟨K - 1,by omega⟩
 show (if x=x then x else _)=x
 rw[if_pos rfl]
end
def vg (n:Nat) (V:List Int) (k:Nat):List Int:=((V.take k).zipIdx).foldl (fun l p=>l.set p.1.toNat (p.2:Int)) (List.replicate n (-1))
theorem ni {α:Type} {g:List Int→α→List Int} (h:∀l x,(g l x).length=l.length):∀(ws:List α) (l:List Int),(ws.foldl g l).length=l.length
 |[],_=>rfl
 |w::ws,l=>by rw[List.foldl_cons,ni h ws,h]
theorem pY (n:Nat) (V:List Int) (k:Nat):(vg n V k).length=n:=by unfold vg;rw[ni (fun l x=>List.length_set)];simp
theorem Bc {n:Nat} {V:List Int} {k:Nat} (h:k<V.length):(vg n V k).set V[k].toNat (k:Int)=vg n V (k+1):=by
 unfold vg;rw[tv h,List.foldl_append];rfl
theorem vh (n:Nat) (V:List Int):vg n V V.length=dY n V:=by unfold vg dY;rw[qy]
section
variable {S:Int→List Int} {at_ V:List Int} {preds:Int→List Int} {n:Nat}
def pZ (at_:List Int) (K:Nat) (preds:Int→List Int) (V l:List Int) (q:Nat):List Int:=((V.drop 1).take q).foldl (iQ at_ K preds) l
theorem xo {K q:Nat} {l:List Int} (h:q<(V.drop 1).length):pZ at_ K preds V l (q+1)=iQ at_ K preds (pZ at_ K preds V l q) (V.drop 1)[q]:=by
 unfold pZ;rw[qu h,List.foldl_append];rfl
theorem Bd {K:Nat} {l:List Int}:pZ at_ K preds V l (V.drop 1).length=sf at_ K preds V l:=by
 unfold pZ sf;rw[qy,List.drop_one]
theorem Be {K q:Nat} (l:List Int):(pZ at_ K preds V l q).length=l.length:=pq K _ _
end
section
variable {E:Int→List Int} {n:Nat}
theorem sx (hE:fT E n) {b p:Int} (h:p∈bd E n b):0≤p∧p<n:=by
 unfold bd at h
 obtain ⟨i,h1,h2⟩:=List.mem_flatMap.1 h
 obtain ⟨c,_,rfl⟩:=List.mem_map.1 h2
 exact cK.1 h1
def bh (E:Int→List Int) (n:Nat):List Int:=(bt E n).set 0 (-1)
theorem fG (E:Int→List Int) (n:Nat):(bh E n).length=n:=by unfold bh;rw[List.length_set,lk]
theorem er {b:Int} (h0:0≤b) (hb:b≠0):gi (bh E n) b=gi (bt E n) b:=by
 unfold bh gi
 rw[if_pos h0,if_pos h0,List.getElem?_set_ne (by omega)]
theorem oL (hn:0<n):gi (bh E n) 0=-1:=by
 unfold bh gi
 rw[if_pos (Int.le_refl _)]
 simp[lk,hn]
end
theorem xp (N at_:Int→Int) (K:Nat) (p:Int) (ps:List Int) (m:Int):fX N at_ K (p::ps) m=fX N at_ K ps (if at_ p=-1∨N p=-1 then m else if m=-1 then p else dV N at_ K m p):=rfl
end Go.Proofs.YtdilpodccjlkgaaGreatDoor
namespace Go.Proofs.YtdilpodccjlkgaaGreatDoor
open Go.Proofs.Tryz
open Go.Proofs
variable {E:World}
set_option maxRecDepth 20000
theorem Bf {S:Int→List Int} {V nr al:List Int} {n K i j:Nat} {T T':TypeId} (hV:rn S (gi al) V) (hN:iF S (gi al) V (gi nr)) (hK:∀a b,a∈V→b∈V→gi al a+gi al b<K) (hK0:0<K) (hnl:nr.length=n) (hal:al.length=n) (hlt:∀b∈V,b<n) {a b:Int} (ha:gi nr a≠-1) (hb:gi nr b≠-1) :
  aY prog E 99 [.agg [.own i n,.own j n],.int .i64 a,.int .i64 b] [(j,.grow 1 T' (cI al)),(i,.grow 1 T (cI nr))]
   fun r O=>r=.int .i64 (dV (gi nr) (gi al) K a b)∧O=[(j,.grow 1 T' (cI al)),(i,.grow 1 T (cI nr))]:=by
 have hget:∀x,gi nr x≠-1→0≤x∧x.toNat<n:=fun x hx=>by
  have hm:=hN.mem x hx
  have:=hV.nn x hm
  have:=hlt x hm
  omega
 have hNl:∀x,gi nr x≠-1→nr[x.toNat]?=some (gi nr x):=fun x hx=>f5 (hget x hx).1 (by rw[hnl];exact (hget x hx).2)
 have hAl:∀x,gi nr x≠-1→al[x.toNat]?=some (gi al x):=fun x hx=>f5 (hget x hx).1 (by rw[hal];exact (hget x hx).2)
 have hpos:∀x,gi nr x≠-1→0≤gi al x:=fun x hx=>(hV.pos x).1 (hN.mem x hx)
 refine zp func99 Z (by decide) Z<|ai<|yo (cs:=_) Z Z Z Z<|fun i3=>ao Z<|z6<|zd<|zm<|y8 (γ:=Int × Int) [3] (fun g=>[(1,.int .i64 g.1),(2,.int .i64 g.2)]) (fun g=>[(i3,.cells 167 [.own i n,.own j n]),(j,.grow 1 T' (cI al)),(i,.grow 1 T (cI nr))]) (fun g=>gi nr g.1≠-1∧gi nr g.2≠-1∧dV (gi nr) (gi al) K g.1 g.2=dV (gi nr) (gi al) K a b) (fun g=>(gi al g.1+gi al g.2).toNat) (a,b) eo aH (⟨ha,hb,Z⟩) ?_
 rintro ⟨x,y⟩ ⟨hx,hy,hm⟩
 try dsimp only at *
 refine zd<|ai<|aa Z<|aa Z<|aO Z Z<|z6<|zy Z (fun cxy=>?_) (fun cxy=>?_)
 ·have hxy:x≠y:=by simpa using cxy
  refine zi<|zm<|zd<|zm<|y8 (γ:=Int) [2,3] (fun u=>[(1,.int .i64 u)]) (fun u=>[(i3,.cells 167 [.own i n,.own j n]),(j,.grow 1 T' (cI al)),(i,.grow 1 T (cI nr))]) (fun u=>gi nr u≠-1∧dV (gi nr) (gi al) K u y=dV (gi nr) (gi al) K a b∧(u=x∨gi al u<gi al x)) (fun u=>(gi al u).toNat) x aK aH (⟨hx,hm,.inl Z⟩) ?_
  rintro u ⟨hu,hmu,hux⟩
  refine zd<|zd<|zr (fun j=>false) (by kernel_rfl) Z (zj (.r (.r (.r (.rest _)))))<|ad 0 Z (zf Zq Z j7 (by decide) Z Z)<|ad 1 Z (zo (c:=.own _ _) jf Z ⟨_,.head⟩ Z)<|ad 2 Z (cD Z)<|ad 3 Z (yi (j:=u.toNat) wy wz Z Z (by have:=hget u hu;omega) ⟨_,.t1⟩ (by first|rfl|(simp[aD,aN];done)|(simp[aD,aN];omega)) (hget u hu).2)<|ad 4 Z (yz (j:=u.toNat) j6 Z ⟨_,.t1⟩ (hAl u hu))<|ad 5 Z (zf Zq Z j7 (by decide) Z Z)<|ad 6 Z (zo (c:=.own _ _) jf Z ⟨_,.head⟩ Z)<|ad 7 Z (cD Z)<|ad 8 Z (yi (j:=y.toNat) wy wz Z Z (by have:=hget y hy;omega) ⟨_,.t1⟩ (by first|rfl|(simp[aD,aN];done)|(simp[aD,aN];omega)) (hget y hy).2)<|ad 9 Z (yz (j:=y.toNat) j6 Z ⟨_,.t1⟩ (hAl y hy))<|ad 10 Z (Gv.gtr Z Z)<|bI<|zy Z (fun c1=>?_) (fun c1=>?_)
  ·have c1:gi al y<gi al u:=by simpa using c1
   obtain ⟨h1,h2,h3,h4⟩:=Ba hV hN hK hu hy c1
   have hp:=hpos u hu
   have hp':=hpos _ h2
   refine zi<|zm<|aW<|za (zf Zq Z j7 (by decide) Z Z)<|za (zo (c:=.own _ _) jf Z ⟨_,.head⟩ Z)<|aa Z<|za (yi (j:=u.toNat) wy wz Z Z (by have:=hget u hu;omega) ⟨_,.t2⟩ (by first|rfl|(simp[aD,aN];done)|(simp[aD,aN];omega)) (hget u hu).2)<|za (yz (j:=u.toNat) j6 Z ⟨_,.t2⟩ (hNl u hu))<|ao Z<|z6 ?_
   exact ⟨gi nr u,eo,aK,aH,⟨h2,by rw[←h4];exact hmu,.inr (by rcases hux with rfl|h<;>omega)⟩,by omega⟩
  ·have c1:¬gi al y<gi al u:=by simpa using c1
   refine y6<|zm<|y8 (γ:=Int) [1,3] (fun z=>[(2,.int .i64 z)]) (fun z=>[(i3,.cells 167 [.own i n,.own j n]),(j,.grow 1 T' (cI al)),(i,.grow 1 T (cI nr))]) (fun z=>gi nr z≠-1∧dV (gi nr) (gi al) K u z=dV (gi nr) (gi al) K a b∧(z=y∨gi al z<gi al y)) (fun z=>(gi al z).toNat) y aK aH (⟨hy,hmu,.inl Z⟩) ?_
   rintro z ⟨hz,hmz,hzy⟩
   refine zd<|zd<|zr (fun j=>false) (by kernel_rfl) Z (zj (.r (.r (.r (.rest _)))))<|ad 0 Z (zf Zq Z j7 (by decide) Z Z)<|ad 1 Z (zo (c:=.own _ _) jf Z ⟨_,.head⟩ Z)<|ad 2 Z (cD Z)<|ad 3 Z (yi (j:=z.toNat) wy wz Z Z (by have:=hget z hz;omega) ⟨_,.t1⟩ (by first|rfl|(simp[aD,aN];done)|(simp[aD,aN];omega)) (hget z hz).2)<|ad 4 Z (yz (j:=z.toNat) j6 Z ⟨_,.t1⟩ (hAl z hz))<|ad 5 Z (zf Zq Z j7 (by decide) Z Z)<|ad 6 Z (zo (c:=.own _ _) jf Z ⟨_,.head⟩ Z)<|ad 7 Z (cD Z)<|ad 8 Z (yi (j:=u.toNat) wy wz Z Z (by have:=hget u hu;omega) ⟨_,.t1⟩ (by first|rfl|(simp[aD,aN];done)|(simp[aD,aN];omega)) (hget u hu).2)<|ad 9 Z (yz (j:=u.toNat) j6 Z ⟨_,.t1⟩ (hAl u hu))<|ad 10 Z (Gv.gtr Z Z)<|bI<|zy Z (fun c2=>?_) (fun c2=>?_)
   ·have c2:gi al u<gi al z:=by simpa using c2
    obtain ⟨h1,h2,h3,h4⟩:=xn hV hN hK hu hz c2
    have hp:=hpos z hz
    have hp':=hpos _ h2
    refine zi<|zm<|aW<|za (zf Zq Z j7 (by decide) Z Z)<|za (zo (c:=.own _ _) jf Z ⟨_,.head⟩ Z)<|aa Z<|za (yi (j:=z.toNat) wy wz Z Z (by have:=hget z hz;omega) ⟨_,.t2⟩ (by first|rfl|(simp[aD,aN];done)|(simp[aD,aN];omega)) (hget z hz).2)<|za (yz (j:=z.toNat) j6 Z ⟨_,.t2⟩ (hNl z hz))<|ao Z<|z6 ?_
    exact ⟨gi nr z,eo,aK,aH,⟨h2,by rw[←h4];exact hmz,.inr (by rcases hzy with rfl|h<;>omega)⟩,by omega⟩
   ·have c2:¬gi al u<gi al z:=by simpa using c2
    have hp1:=hpos x hx
    have hp2:=hpos y hy
    have hp3:=hpos u hu
    have hp4:=hpos z hz
    have hin:gi al x=gi al y→x=y:=fun e=>hV.inj x y (hN.mem x hx) (hN.mem y hy) e
    refine y6 ?_
    exact ⟨(u,z),aK,eo,aH,⟨hu,hz,hmz⟩,by dsimp only;rcases hux with rfl|hux<;>rcases hzy with rfl|hzy<;>omega⟩
 ·have hxy:x=y:=by simpa using cxy
  subst hxy
  rw[Bb hK0] at hm
  refine y6<|ai<|aa Z<|ao Z<|z6<|zz (aS.drop .head)<|zg<|zn (x:=.int _ _) Z ?_
  exact ⟨by rw[hm],rfl⟩
end Go.Proofs.YtdilpodccjlkgaaGreatDoor
namespace Go.Proofs.YtdilpodccjlkgaaGreatDoor
open Go.Proofs.Tryz
open Go.Proofs
theorem HH:dB prog 167 #[(0,1),(1,1)] [.raw (.slice none 0 0),.raw (.slice none 0 0)]:=⟨_,_,Zq,zeroValue167,fun w=>by kernel_rfl,rfl⟩
variable {E:World}
set_option maxRecDepth 20000
theorem tx (f:ac) (hE:bW f) (hn:f.blocks.length≤1000):aY prog E 59 [.fro 1 ((aB (ah f) f.blocks.length).map cX),lG eI (cT f f.blocks.length),.int .i64 f.blocks.length] []
  fun x O'=>∃i:Nat,x=.own i f.blocks.length∧O'=[(i,.grow 1 3 (cI (bh (ah f) f.blocks.length)))]:=by
 have hG:=hE.grph
 have hk:=hG.gok
 have hpos:=hG.npos
 have hol:=eZ hG
 obtain ⟨n,hnn⟩:∃n,f.blocks.length=n:=⟨_,rfl⟩
 obtain ⟨S,hS⟩:∃S,ah f=S:=⟨_,rfl⟩
 have hrow:∀k,k<n→(cT f n)[k]?=some (bd S n (k:Int)):=fun k h=>by rw[←hnn,←hS];exact jT f (by omega)
 rw[hnn] at hk hG hpos hol hn ⊢
 rw[hS] at hk hG hol ⊢
 obtain ⟨V,hVe⟩:∃V,aB S n=V:=⟨_,rfl⟩
 have hNG:si (dY n V) V (bd S n) n=bt S n:=by rw[←hVe];rfl
 rw[hVe] at hk hol ⊢
 have hVp:=hk.pos
 have hK:=hk.K
 have hdl:(V.drop 1).length+1=V.length:=by simp;omega
 refine zp func59 Z (by decide) Z<|ai<|za (jI Z)<|z6<|ai<|y4 (rows:=[[_]]) cS Z Z Z Z Z<|aa Z<|zu Z (zj (.rest _)) (aP (-1) n (by omega) hpos) ?_
 rintro r18 O18 ⟨i18,rfl,rfl⟩
 refine y4 (rows:=[[_]]) cS Z Z Z Z Z<|aa Z<|zu Z (zj (.r (.rest _))) (aP (-1) n (by omega) hpos) ?_
 rintro r21 O21 ⟨i21,rfl,rfl⟩
 refine za (y3 (cps:=[(0,[_]),(1,[_])]) (rs:=[_,_]) HH Z Z Z)<|y7 (cs:=[.raw (.slice none 0 0),.raw (.slice none 0 0)]) zeroValue167 Z Z<|fun i7=>y1 sizeOf167 Z Z Z Z Z Z .head Z<|z6<|zd<|ai<|be Z<|aq wy Z<|aa Z<|z6<|zm<|y8 (γ:=Nat) [0,1,7,23,24] (fun k=>[(25,.int .i64 k)]) (fun k=>[(i7,.cells 167 [.own i18 n,.own i21 n]),(i21,.grow 1 3 (cI (vg n V k))),(i18,.grow 1 3 (cI (List.replicate n (-1))))]) (fun k=>k≤V.length) (fun k=>V.length - k) 0 aK aH (qw _) ?_
 rintro k hkl
 refine ai<|ay Z Z<|z6<|zd<|zt Z (fun ck=>?_) (fun ck=>?_)
 ·have hk2:k<V.length:=by simp at ck;omega
  have hb:=hk.lt _ (qx hk2)
  have hb0:=hk.ord.nn _ (qx hk2)
  refine zi<|zd<|zm<|ai<|aa Z<|za (bv k wy wz Z Z Z (qt hk2))<|aA j6 Z<|ao Z<|ao Z<|z6<|aW<|za (zf Zq Z j7 (by decide) Z Z)<|za (zo (c:=.own _ _) jf Z ⟨_,.head⟩ Z)<|aa Z<|aa Z<|za (yi (j:=V[k].toNat) wy wz Z Z (by omega) ⟨_,.t1⟩ (by rw[aD,pY]) (by omega))<|yy (j:=V[k].toNat) wz Z Z .t1 (by rw[pY];omega)<|z6<|aW<|aE Z Z<|aa Z<|z6 ?_
  exact ⟨k+1,nJ,aK,⟨_,(.refl _),by rw[Bc hk2]⟩,hk2,by omega⟩
 ·have hkn:k=V.length:=by simp at ck;omega
  subst hkn
  rw[vh]
  have hatl:(dY n V).length=n:=by rw[←vh];exact pY n V _
  have hatg:∀x:Int,0≤x→x<n→(dY n V)[x.toNat]?=some (gi (dY n V) x):=fun x h1 h2=>f5 h1 (by omega)
  refine y6<|ai<|za (zf Zq Z j7 (by decide) Z Z)<|za (zo (c:=.own _ _) jf Z ⟨_,.head⟩ Z)<|za (yi (j:=0) wy wz Z Z Z ⟨_,.t2⟩ (by first|rfl|(simp[aD,aN];done)|(simp[aD,aN];omega)) (by omega))<|yy (j:=0) wz Z Z .t2 (by first|omega|(simp;omega))<|z6<|zd<|ai<|ab Z<|z6<|zm<|y8 (γ:=Nat × Bool × List Int) [0,1,7] (fun g=>[(10,.bool g.2.1)]) (fun g=>[(i7,.cells 167 [.own i18 n,.own i21 n]),(i21,.grow 1 3 (cI (dY n V))),(i18,.grow 1 3 (cI g.2.2))]) (fun g=>mx S (gi (dY n V)) V (gi g.2.2) g.1 1∧g.2.2.length=n∧(g.2.1=true→g.1≤V.length)∧(g.2.1=false→g.2.2=bt S n)) (fun g=>(if g.2.1=true then V.length+1 - g.1 else 0)) (0,true,fu n) aK aH (⟨hk.begin,lZ n,fun _=>qw _,fun h=>by cases h⟩) ?_
  rintro ⟨j,again,l⟩ ⟨hR,hl,hj,hfin⟩
  try dsimp only at *
  refine zd<|ai<|aj Z<|z6<|zy Z (fun ca=>?_) (fun ca=>?_)
  ·have ca:again=true:=by simpa using ca
   subst ca
   have hj:=hj rfl
   refine zi<|zm<|ai<|ab Z<|z6<|ai<|be Z<|za (Gv.cutLoM (j:=1) wy wz Z Z Z (by omega))<|aq wy Z<|aa Z<|z6<|zm<|y8 (γ:=Nat × Bool × List Int) [0,1,7,41,42] (fun g=>[(43,.int .i64 g.1),(10,.bool g.2.1)]) (fun g=>[(i7,.cells 167 [.own i18 n,.own i21 n]),(i21,.grow 1 3 (cI (dY n V))),(i18,.grow 1 3 (cI g.2.2))]) (fun g=>g.1≤(V.drop 1).length∧g.2.2=pZ (dY n V) (2*V.length) (bd S n) V l g.1∧mx S (gi (dY n V)) V (gi g.2.2) j ((g.1+1:Nat):Int)∧(g.2.1=true→j<V.length)∧(g.2.1=false→g.2.2=l)) (fun g=>(V.drop 1).length - g.1) (0,false,l) eo aH (⟨qw _,Z,hR,fun h=>(by cases h),fun _=>Z⟩) ?_
   rintro ⟨q,ag,l'⟩ ⟨hq,hl',hR',hag,hsame⟩
   try dsimp only at *
   have hl'n:l'.length=n:=by rw[hl',Be,hl]
   refine ai<|ay Z Z<|z6<|zd<|zt Z (fun cq=>?_) (fun cq=>?_)
   ·have hq2:q<(V.drop 1).length:=by simpa using cq
    obtain ⟨b,hb⟩:∃b,(V.drop 1)[q]=b:=⟨_,rfl⟩
    have hbV:V[q+1]?=some b:=by rw[←hb,List.getElem_drop,Nat.add_comm];exact qt (by simp at hq2;omega)
    obtain ⟨hs1,hs2,hs3,hbm,hb0⟩:=hk.step hl'n (Nat.succ_pos q) hbV hR'
    have hblt:=hk.lt b hbm
    have hbnn:=hk.ord.nn b hbm
    have hpr:∀p∈bd S n b,0≤p∧p<n:=fun p hp=>sx hG hp
    have hsucc:=xo (at_:=dY n V) (K:=2*V.length) (preds:=bd S n) (l:=l) hq2
    rw[hb,←hl'] at hsucc
    have hgl:∀x:Int,0≤x→x<n→l'[x.toNat]?=some (gi l' x):=fun x h1 h2=>f5 h1 (by omega)
    have hrb:(cT f n)[b.toNat]?=some (bd S n b):=by
     have:=hrow b.toNat (by omega)
     rwa [show ((b.toNat:Nat):Int)=b by omega] at this
    obtain ⟨ps,hps⟩:∃ps,bd S n b=ps:=⟨_,rfl⟩
    have hpsl:ps.length≤2*n:=by rw[←hps,←hS];exact gY f b n
    rw[hps] at hpr hrb
    refine zi<|zd<|zm<|ai<|za (bv q wy wz Z Z Z (by rw[qt hq2,hb])) ?_
    refine aA j6 Z<|ao Z<|z6<|ai<|ao Z<|z6<|zd<|ai<|be Z<|aa Z<|za (bv b.toNat jh j7 Z Z (by omega) hrb)<|aI jf Z<|aq wy Z<|aa Z<|z6<|zm<|y8 (γ:=Nat × Int) [0,1,7,10,12,41,42,43,50,51] (fun g=>[(52,.int .i64 g.1),(13,.int .i64 g.2)]) (fun g=>[(i7,.cells 167 [.own i18 n,.own i21 n]),(i21,.grow 1 3 (cI (dY n V))),(i18,.grow 1 3 (cI l'))]) (fun g=>g.1≤ps.length∧fX (gi l') (gi (dY n V)) (2*V.length) (ps.drop g.1) g.2=fX (gi l') (gi (dY n V)) (2*V.length) ps (-1)∧(g.2=-1∨gi l' g.2≠-1)) (fun g=>ps.length - g.1) (0,-1) eo aH (⟨qw _,Z,.inl Z⟩) ?_
    rintro ⟨m,best⟩ ⟨hm,hbst,hbn⟩
    try dsimp only at *
    refine ai<|ay Z Z<|z6<|zd<|zt Z (fun cm=>?_) (fun cm=>?_)
    ·have hm2:m<ps.length:=by simp at cm;omega
     obtain ⟨p,hp⟩:∃p,ps[m]=p:=⟨_,rfl⟩
     obtain ⟨hp0,hpn⟩:=hpr p (hp▸qx hm2)
     have hbst:fX (gi l') (gi (dY n V)) (2*V.length) (ps.drop (m+1)) (if gi (dY n V) p=-1∨gi l' p=-1 then best else if best=-1 then p else dV (gi l') (gi (dY n V)) (2*V.length) best p)=fX (gi l') (gi (dY n V)) (2*V.length) ps (-1):=by
      rw[←hbst,List.drop_eq_getElem_cons hm2,xp,hp]
     refine zi<|zd<|zm<|ai<|za (bv m wy wz Z Z Z (by rw[qt hm2,hp])) ?_
     refine aA j6 Z<|ao Z<|z6<|zm<|ai<|za (zf Zq Z j7 (by decide) Z Z)<|za (zo (c:=.own _ _) jf Z ⟨_,.head⟩ Z)<|aa Z<|za (yi (j:=p.toNat) wy wz Z Z (by omega) ⟨_,.t1⟩ (by first|rfl|(simp[aD,aN];done)|(simp[aD,aN];omega)) (by omega))<|za (yz (j:=p.toNat) j6 Z ⟨_,.t1⟩ (hatg p hp0 hpn))<|ak Z Z<|aj Z<|zq (s:=67) Z (fun c1=>?_) (fun c1=>?_)
     ·have d1:gi (dY n V) p=-1:=by simpa using c1
      rw[if_pos (.inl d1)] at hbst
      refine z7 Z Z c1<|z7 Z Z c1<|z7 Z Z c1<|z7 Z Z c1<|z7 Z Z c1<|z7 Z Z c1<|aw Z c1 Z<|ab Z<|z6<|yt Z Z<|zi<|aW<|aE Z Z<|aa Z<|z6 ?_
      exact ⟨(m+1,best),oc,eo,aH,⟨hm2,hbst,hbn⟩,by dsimp only;omega⟩
     ·have d1:¬gi (dY n V) p=-1:=by simpa using c1
      refine z8 Z Z c1<|za (zf Zq Z j7 (by decide) Z Z)<|z8 Z Z c1<|za (zo (c:=.own _ _) jf Z ⟨_,.head⟩ Z)<|z8 Z Z c1<|aa Z<|z8 Z Z c1<|za (yi (j:=p.toNat) wy wz Z Z (by omega) ⟨_,.t2⟩ (by first|rfl|(simp[aD,aN];done)|(simp[aD,aN];omega)) (by omega))<|z8 Z Z c1<|za (yz (j:=p.toNat) j6 Z ⟨_,.t2⟩ (hgl p hp0 hpn))<|z8 Z Z c1<|ak Z Z<|ax Z c1 Z<|ab Z<|z6<|zy Z (fun c2=>?_) (fun c2=>?_)
      ·have d2:gi l' p=-1:=by simpa using c2
       rw[if_pos (.inr d2)] at hbst
       refine zi<|aW<|aE Z Z<|aa Z<|z6 ?_
       exact ⟨(m+1,best),oc,eo,aH,⟨hm2,hbst,hbn⟩,by dsimp only;omega⟩
      ·have d2:¬gi l' p=-1:=by simpa using c2
       rw[if_neg (by rintro (h|h);exact d1 h;exact d2 h)] at hbst
       refine ai<|aa Z<|ak Z Z<|ab Z<|z6<|zy Z (fun c3=>?_) (fun c3=>?_)
       ·have c3:best=-1:=by simpa using c3
        rw[if_pos c3] at hbst
        refine aW<|aa Z<|ao Z<|z6<|aW<|aE Z Z<|aa Z<|z6 ?_
        exact ⟨(m+1,p),oc,eo,aH,⟨hm2,hbst,.inr d2⟩,by dsimp only;omega⟩
       ·have c3:¬best=-1:=by simpa using c3
        rw[if_neg c3] at hbst
        have hbb:gi l' best≠-1:=by rcases hbn with h|h;exact absurd h c3;exact h
        refine aW<|za (Gv.loadWC isAgg167 sizeOf167 Z ⟨_,.head⟩ Z)<|aa Z<|aa Z<|zu Z (zj (.r (.l (.l (.rest _))))) (Bf hk.ord hR'.inv hK (by omega) hl'n hatl hk.lt hbb d2) ?_
        rintro r59 O59 ⟨rfl,rfl⟩
        refine ao Z<|z6<|zz (zb (zc .t2))<|aW<|aE Z Z<|aa Z<|z6 ?_
        exact ⟨(m+1,dV (gi l') (gi (dY n V)) (2*V.length) best p),oc,eo,aH,⟨hm2,hbst,.inr (mw hk.ord hR'.inv _ best p hbb d2 (hK best p (hR'.inv.mem _ hbb) (hR'.inv.mem _ d2))).1⟩,by dsimp only;omega⟩
    ·have hmn:m=ps.length:=by simp at cm;omega
     subst hmn
     rw[List.drop_length] at hbst
     have hbst:best=fX (gi l') (gi (dY n V)) (2*V.length) ps (-1):=hbst
     have hst:iQ (dY n V) (2*V.length) (bd S n) l' b=l'.set b.toNat best:=by unfold iQ;rw[hps,←hbst]
     rw[hst] at hs1 hs2 hsucc
     refine y6<|ai<|za (zf Zq Z j7 (by decide) Z Z)<|za (zo (c:=.own _ _) jf Z ⟨_,.head⟩ Z)<|aa Z<|za (yi (j:=b.toNat) wy wz Z Z (by omega) ⟨_,.t2⟩ (by first|rfl|(simp[aD,aN];done)|(simp[aD,aN];omega)) (by omega))<|za (yz (j:=b.toNat) j6 Z ⟨_,.t2⟩ (hgl b hbnn hblt))<|aa Z<|aO Z Z<|z6<|zy Z (fun ce=>?_) (fun ce=>?_)
     ·have ce:¬gi l' b=best:=by simpa using ce
      have hjl:j<V.length:=Classical.byContradiction fun h=>ce (by
       have h2:=hs2 (by omega)
       have h3:=tc (l:=l') hbnn (by omega) best
       rw[h2] at h3
       have h4:=congrFun h3 b
       simpa [iG] using h4)
      refine aW<|za (zf Zq Z j7 (by decide) Z Z)<|za (zo (c:=.own _ _) jf Z ⟨_,.head⟩ Z)<|aa Z<|aa Z<|za (yi (j:=b.toNat) wy wz Z Z (by omega) ⟨_,.t2⟩ (by first|rfl|(simp[aD,aN];done)|(simp[aD,aN];omega)) (by omega))<|yy (j:=b.toNat) wz Z Z .t2 (by first|omega|(simp;omega))<|ab Z<|z6<|aW<|aE Z Z<|aa Z<|z6 ?_
      exact ⟨(q+1,true,l'.set b.toNat best),nJ,eo,aH,⟨hq2,hsucc.symm,hs1,fun _=>hjl,fun h=>by cases h⟩,by dsimp only;omega⟩
     ·have ce:gi l' b=best:=by simpa using ce
      rw[←ce,uG hbnn] at hs1 hsucc
      refine zi<|aW<|aE Z Z<|aa Z<|z6 ?_
      exact ⟨(q+1,ag,l'),nJ,eo,aH,⟨hq2,hsucc.symm,hs1,hag,hsame⟩,by dsimp only;omega⟩
   ·have hqn:q=(V.drop 1).length:=by have h0:¬(q:Int)<((V.drop 1).length:Int):=(by simpa using cq);omega
    subst hqn
    rw[Bd] at hl'
    have hR2:mx S (gi (dY n V)) V (gi l') (j+1) 1:=by rw[hl'];exact hk.pass hl hR
    refine y6 ?_
    exact ⟨(j+1,ag,l'),db,aK,aH,⟨hR2,hl'n,fun h=>by have:=hag h;omega,fun h=>by have e:=hsame h;rw[e] at hl';have:=hk.near_eq hl (hk.fixed hl hR hl'.symm);rw[e,this,hNG]⟩,by dsimp only;rw[if_pos rfl];split<;>omega⟩
  ·have ca:again=false:=by simpa using ca
   have hfin:=hfin ca
   subst hfin
   refine y6<|ai<|za (zf Zq Z j7 (by decide) Z Z)<|za (zo (c:=.own _ _) jf Z ⟨_,.head⟩ Z)<|za (yi (j:=0) wy wz Z Z Z ⟨_,.t2⟩ (by rw[aD,lk]) (by omega))<|yy (j:=0) wz Z Z .t2 (by rw[lk];omega)<|z6<|ai<|za (zf Zq Z j7 (by decide) Z Z)<|za (zo (c:=.own _ _) jf Z ⟨_,.head⟩ Z)<|za (eD Z)<|z6<|zz (aS.drop .head)<|zz (aS.drop .head)<|zg<|zn (x:=.own _ _) Z ?_
   exact ⟨i18,rfl,rfl⟩
end Go.Proofs.YtdilpodccjlkgaaGreatDoor
namespace Go.Proofs.YtdilpodccjlkgaaGreatDoor
open Go.Proofs.Tryz
open Go.Proofs
variable {E:World}
set_option maxRecDepth 20000
theorem vj (xs:List Int) (v:Int) (i:Nat) (T:TypeId) (hl:xs.length≤281474976710656):aY prog E 136 [.own i xs.length,.int .i64 v] [(i,.grow 1 T (cI xs))] fun r O=>r=.int .i64 (cE (fun x=>decide (v=x)) xs 0)∧O=[(i,.grow 1 T (cI xs))]:=by
 refine zp func136 Z (by decide) Z<|ai<|ao Z<|z6<|zd<|ai<|za (im Z)<|za (qo wy Z)<|aa Z<|z6<|zm<|y8 (γ:=Nat) [0,1,7] (fun k=>[(8,.int .i64 k)]) (fun k=>[(i,.grow 1 T (cI xs))]) (fun k=>k≤xs.length∧(xs.take k).all (fun x=>!decide (v=x))) (fun k=>xs.length - k) 0 aK aH (⟨qw _,Z⟩) ?_
 rintro k ⟨hk,hall⟩
 refine ai<|ay Z Z<|z6<|zd<|zt Z (fun ck=>?_) (fun ck=>?_)
 ·have hk2:k<xs.length:=by simp at ck;omega
  refine zi<|zd<|zm<|ai<|aa Z<|ao Z<|z6<|ai<|aa Z<|za (im Z)<|aa Z<|za (yi (j:=k) wy wz Z Z Z ⟨_,.head⟩ (by first|rfl|(simp[aD,aN];done)|(simp[aD,aN];omega)) hk2)<|za (yz (j:=k) j6 Z ⟨_,.head⟩ (qt hk2))<|ak Z Z<|z6<|zy Z (fun cp=>?_) (fun cp=>?_)
  ·refine ai<|aa Z<|ao Z<|z6<|zg<|zn (x:=.int _ _) Z ?_
   exact ⟨by rw[bF _ xs k hk hall,List.drop_eq_getElem_cons hk2,cE,if_pos (by simpa using cp)],rfl⟩
  ·refine zi<|aW<|aE Z Z<|aa Z<|z6 ?_
   exact ⟨k+1,db,aK,aH,⟨hk2,by rw[qu hk2,List.all_append,hall];simpa using cp⟩,by omega⟩
 ·have hkn:k=xs.length:=by simp at ck;omega
  refine y6<|ai<|ao Z<|z6<|zg<|zn (x:=.int _ _) Z ?_
  exact ⟨by rw[bF _ xs k hk hall,hkn,List.drop_length,cE],rfl⟩
theorem p5 (xs:List Int) (v:Int) (i:Nat) (T:TypeId) (hl:xs.length≤281474976710656):aY prog E 101 [.own i xs.length,.int .i64 v] [(i,.grow 1 T (cI xs))] fun r O=>r=.bool (xs.contains v)∧O=[(i,.grow 1 T (cI xs))]:=by
 refine zp func101 Z (by decide) Z<|ai<|ab Z<|z6<|ai<|za (im Z)<|aa Z<|zu Z (zj (.l (.rest _))) (vj xs v i T hl) ?_
 rintro r7 O7 ⟨rfl,rfl⟩
 refine za (q5 Z Z)<|ab Z<|z6<|zg<|zn (x:=.bool _) Z ?_
 exact ⟨by rw[eX];congr 1;rw[w3];simp,rfl⟩
theorem p6 (xs:List Int) (v:Int) (i:Nat) (T:TypeId) (hl:xs.length≤281474976710656):aY prog E 101 [.own i xs.length,.int .i64 v] [(i,.grow eI.k T (eI.av xs))] fun r O=>r=.bool (xs.contains v)∧O=[(i,.grow eI.k T (eI.av xs))]:=by rw[Ch];exact p5 xs v i T hl
theorem Bg (l:List Int) (i:Nat) (T:TypeId) (hl:l.length≤200000):aY prog E 102 [.own i l.length] [(i,.grow eI.k T (eI.av l))] fun r O=>r=.tup []∧O=[(i,.grow eI.k T (eI.av (km l)))]:=by rw[Ch,Ch];exact uO l i T hl
def uf (n:Nat) (rows:List (List Int)):Prop:=rows.length=n∧∀r∈rows,r.Nodup∧∀x∈r,0≤x∧x<n
theorem uf.len {n:Nat} {rows:List (List Int)} (h:uf n rows) {r:List Int} (hr:r∈rows):r.length≤n:=by
 have:=lm r (bx n) (h.2 r hr).1 fun x hx=>cK.2 ((h.2 r hr).2 x hx)
 rwa [bS] at this
theorem uf.push {n:Nat} {rows:List (List Int)} (h:uf n rows) {j:Nat} (hj:j<rows.length) {b:Int} (h0:0≤b) (hb:b<n) (hn:b ∉ rows[j]):uf n (rows.set j (rows[j]++[b])):=by
 refine ⟨by rw[List.length_set];exact h.1,fun r hr=>?_⟩
 rcases List.mem_or_eq_of_mem_set hr with hr|rfl
 ·exact h.2 r hr
 ·obtain ⟨g1,g2⟩:=h.2 _ (qx hj)
  refine ⟨List.nodup_append.2 ⟨g1,by simp,fun x hx y hy e=>?_⟩,fun x hx=>?_⟩
  ·simp at hy;subst hy;subst e;exact hn hx
  ·rcases List.mem_append.1 hx with hx|hx
   ·exact g2 x hx
   ·simp at hx;subst hx;exact ⟨h0,hb⟩
theorem uf.sort {n:Nat} {rows:List (List Int)} (h:uf n rows) {j:Nat} (hj:j<rows.length):uf n (rows.set j (km rows[j])):=by
 refine ⟨by rw[List.length_set];exact h.1,fun r hr=>?_⟩
 rcases List.mem_or_eq_of_mem_set hr with hr|rfl
 ·exact h.2 r hr
 ·obtain ⟨g1,g2⟩:=h.2 _ (qx hj)
  exact ⟨(eN _).nodup_iff.2 g1,fun x hx=>g2 x ((eN _).mem_iff.1 hx)⟩
theorem uf.begin (n:Nat):uf n (List.replicate n []):=⟨by simp,fun r hr=>by rw[List.eq_of_mem_replicate hr];exact ⟨by simp,fun x hx=>by cases hx⟩⟩
section
variable {S:Int→List Int} {n:Nat} (hG:fT S n)
include hG
theorem vk {c p:Int} (hc:c∈aB S n) (hp:p∈aB S n) (he:c∈S p):c=0∨gz (gi (bt S n)) p (gi (bt S n) c):=by
 by_cases h0:c=0
 ·exact .inl h0
 ·right
  have hX:=hG.exact
  have hO:=hG.gok.ord
  have hb:=hX.has c hc
  obtain ⟨g1,g2,g3⟩:=hX.inv.near c h0 hb
  have hd:gJ S (gi (bt S n) c) c:=(hX.anc c _ hc).1 (.up h0 hb (.refl _))
  exact (hX.anc p _ hp).2 (hd.pred ((hO.mem p).1 hp) he (fun e=>by rw[e] at g3;omega))
theorem xq {c y:Int} (hc:c∈aB S n) (hy:(y∈aB S n∧(c=0∨gz (gi (bt S n)) y (gi (bt S n) c)))∨(c=0∧y=-1)) (hne:y≠gi (bh S n) c) :
  y∈aB S n∧((gi (bh S n) y∈aB S n∧(c=0∨gz (gi (bt S n)) (gi (bh S n) y) (gi (bt S n) c)))∨(c=0∧gi (bh S n) y=-1))∧0<(gi (bO S n) y+1).toNat∧(gi (bO S n) (gi (bh S n) y)+1).toNat<(gi (bO S n) y+1).toNat:=by
 have hO:=hG.gok.ord
 have hpos:=hG.npos
 have hyV:y∈aB S n:=by
  rcases hy with h|⟨h1,h2⟩
  ·exact h.1
  ·exact absurd (by rw[h2,h1,oL hpos]) hne
 have hl:=hG.lev_nn hyV
 have hy0:=hO.nn y hyV
 refine ⟨hyV,?_⟩
 by_cases h0:y=0
 ·subst h0
  rw[oL hpos]
  have hc0:c=0:=by
   rcases hy with ⟨_,h|h⟩|h
   ·exact h
   ·rcases h.cases' with e|⟨e,_⟩
    ·by_cases hc0:c=0
     ·exact hc0
     ·have:=hO.nn c hc
      exact absurd (by rw[er this hc0,←e]) hne
    ·exact absurd rfl e
   ·exact h.1
  have hm:gi (bO S n) (-1)=-1:=wZ (.inl (by omega))
  exact ⟨.inr ⟨hc0,rfl⟩,by omega,by rw[hm];omega⟩
 ·rw[er hy0 h0]
  obtain ⟨g1,g2⟩:=hG.near_mem hyV h0
  have g3:=hG.lev_near hyV h0
  have g4:=hG.lev_nn g1
  refine ⟨.inl ⟨g1,?_⟩,by omega,by omega⟩
  rcases hy with ⟨_,h|h⟩|h
  ·exact .inl h
  ·rcases h.cases' with e|⟨_,_,h3⟩
   ·by_cases hc0:c=0
    ·exact .inl hc0
    ·have:=hO.nn c hc
     exact absurd (by rw[er this hc0,e]) hne
   ·exact .inr h3
  ·exact .inl h.1
end
theorem vm (f:ac) (hE:bW f) (hn:f.blocks.length≤1000) (t a b fb:Nat) (T:TypeId) (x:AV) (rows:List (List Int)) (hF:uf f.blocks.length rows) :
  aY prog E 61 [.po t 0,.fro 1 ((aB (ah f) f.blocks.length).map cX),lG eI (cT f f.blocks.length)]
   [(0,dv eI 23 3 fb rows),(t,.cells 130 [.own a f.blocks.length,.own b f.blocks.length,x,eh fb f.blocks.length]),(b,.grow 1 3 (cI (bO (ah f) f.blocks.length))),(a,.grow 1 3 (cI (bh (ah f) f.blocks.length)))]
   fun r O=>r=.tup []∧∃rows',uf f.blocks.length rows'∧O=[(0,dv eI 23 3 fb rows'),(t,.cells 130 [.own a f.blocks.length,.own b f.blocks.length,x,eh fb f.blocks.length]),(b,.grow 1 3 (cI (bO (ah f) f.blocks.length))),(a,.grow 1 3 (cI (bh (ah f) f.blocks.length)))]:=by
 have hG:=hE.grph
 have hpos:=hG.npos
 have hol:=eZ hG
 have hrowP:∀k,k<f.blocks.length→(cT f f.blocks.length)[k]?=some (bd (ah f) f.blocks.length (k:Int)):=fun k h=>jT f h
 have hpl:∀b,(bd (ah f) f.blocks.length b).length≤2*f.blocks.length:=fun b=>gY f b _
 obtain ⟨n,hnn⟩:∃n,f.blocks.length=n:=⟨_,rfl⟩
 obtain ⟨S,hS⟩:∃S,ah f=S:=⟨_,rfl⟩
 rw[hnn] at hG hpos hol hn hrowP hpl hF ⊢
 rw[hS] at hG hol hrowP hpl ⊢
 obtain ⟨V,hVe⟩:∃V,aB S n=V:=⟨_,rfl⟩
 have hVr:∀y∈V,0≤y∧y<n:=fun y hy=>de hG.toEOk (hVe▸hy)
 have hX:=hG.exact
 have hO:=hG.gok.ord
 have hlev:=hG.lev
 rw[hVe] at hX hO hol ⊢
 have hLl:(bO S n).length=n:=hlev.len
 have hRl:(bh S n).length=n:=fG S n
 have hLg:∀y:Int,0≤y→y<n→(bO S n)[y.toNat]?=some (gi (bO S n) y):=fun y h1 h2=>f5 h1 (by omega)
 have hNg:∀y:Int,0≤y→y<n→(bh S n)[y.toNat]?=some (gi (bh S n) y):=fun y h1 h2=>f5 h1 (by rw[fG];omega)
 refine zp func61 Z (by decide) Z<|zd<|ai<|be Z<|aq wy Z<|aa Z<|z6<|zm<|y8 (γ:=Nat × List (List Int)) [0,2,12,13] (fun g=>[(14,.int .i64 g.1)]) (fun g=>[(0,dv eI 23 3 fb g.2),(t,.cells 130 [.own a n,.own b n,x,eh fb n]),(b,.grow 1 3 (cI (bO S n))),(a,.grow 1 3 (cI (bh S n)))]) (fun g=>g.1≤V.length∧uf n g.2) (fun g=>V.length - g.1) (0,rows) aK aH (⟨qw _,hF⟩) ?_
 rintro ⟨k,rows⟩ ⟨hk,hF⟩
 try dsimp only at *
 refine ai<|ay Z Z<|z6<|zd<|zt Z (fun ck=>?_) (fun ck=>?_)
 ·have hk2:k<V.length:=by simp at ck;omega
  obtain ⟨c,hc⟩:∃c,V[k]=c:=⟨_,rfl⟩
  have hcV:c∈V:=hc▸qx hk2
  obtain ⟨hc0,hcn⟩:=hVr c hcV
  have hrow:(cT f n)[c.toNat]?=some (bd S n c):=by
   have:=hrowP c.toNat (by omega)
   rwa [show ((c.toNat:Nat):Int)=c by omega] at this
  have hpc:=hpl c
  have hpr:∀p∈bd S n c,0≤p∧p<n:=fun p hp=>sx hG hp
  have hpS:∀p∈bd S n c,c∈S p:=fun p hp=>(hG.gok.preds c (by rw[hVe];exact hcV) p).1 hp
  obtain ⟨ps,hps⟩:∃ps,bd S n c=ps:=⟨_,rfl⟩
  rw[hps] at hrow hpc hpr hpS
  refine zi<|zd<|zm<|ai<|za (bv k wy wz Z Z Z (by rw[qt hk2,hc])) ?_
  refine aA j6 Z<|ao Z<|z6<|ai<|be Z<|aa Z<|za (bv c.toNat jh j7 Z Z (by omega) hrow)<|aI jf Z<|aq wy Z<|aa Z<|z6<|zm<|y8 (γ:=Nat × List (List Int)) [0,2,7,12,13,14,21,22] (fun g=>[(23,.int .i64 g.1)]) (fun g=>[(0,dv eI 23 3 fb g.2),(t,.cells 130 [.own a n,.own b n,x,eh fb n]),(b,.grow 1 3 (cI (bO S n))),(a,.grow 1 3 (cI (bh S n)))]) (fun g=>g.1≤ps.length∧uf n g.2) (fun g=>ps.length - g.1) (0,rows) aK aH (⟨qw _,hF⟩) ?_
  rintro ⟨j,rows⟩ ⟨hj,hF⟩
  try dsimp only at *
  refine ai<|ay Z Z<|z6<|zd<|zt Z (fun cj=>?_) (fun cj=>?_)
  ·have hj2:j<ps.length:=by simp at cj;omega
   obtain ⟨p,hp⟩:∃p,ps[j]=p:=⟨_,rfl⟩
   obtain ⟨hp0,hpn⟩:=hpr p (hp▸qx hj2)
   have hpc2:=hpS p (hp▸qx hj2)
   refine zi<|zd<|zm<|ai<|za (bv j wy wz Z Z Z (by rw[qt hj2,hp])) ?_
   refine aA j6 Z<|ao Z<|z6<|zd<|ai<|aJ Z<|ap Z<|za (zf Zc Z j7 (by decide) Z Z)<|za (zo (c:=.own _ _) jf Z ⟨_,.t1⟩ Z)<|aa Z<|za (yi (j:=p.toNat) wy wz Z Z (by omega) ⟨_,.t2⟩ (by first|rfl|(simp[aD,aN];done)|(simp[aD,aN];omega)) (by omega))<|za (yz (j:=p.toNat) j6 Z ⟨_,.t2⟩ (hLg p hp0 hpn))<|ak Z Z<|z6<|zy Z (fun cl=>?_) (fun cl=>?_)
   ·refine y6<|aW<|aE Z Z<|aa Z<|z6 ?_
    exact ⟨(j+1,rows),wH,aK,aH,⟨hj2,hF⟩,by dsimp only;omega⟩
   ·have hpV:p∈V:=by have h0:¬gi (bO S n) p=-1:=(by simpa using cl);rw[←hVe];exact (hG.lev_mem p).1 h0
    refine zi<|ai<|aa Z<|ao Z<|z6<|zm<|y8 (γ:=Int × List (List Int)) [0,2,7,12,13,14,21,22,23] (fun g=>[(10,.int .i64 g.1)]) (fun g=>[(0,dv eI 23 3 fb g.2),(t,.cells 130 [.own a n,.own b n,x,eh fb n]),(b,.grow 1 3 (cI (bO S n))),(a,.grow 1 3 (cI (bh S n)))]) (fun g=>((g.1∈V∧(c=0∨gz (gi (bt S n)) g.1 (gi (bt S n) c)))∨(c=0∧g.1=-1))∧uf n g.2) (fun g=>(gi (bO S n) g.1+1).toNat) (p,rows) aK aH (⟨.inl ⟨hpV,vk hG (by rw[hVe];exact hcV) (by rw[hVe];exact hpV) hpc2⟩,hF⟩) ?_
    rintro ⟨y,rows⟩ ⟨hy,hF⟩
    try dsimp only at *
    refine zd<|ai<|aa Z<|aJ Z<|ap Z<|za (zf Zc Z j7 (by decide) Z Z)<|za (zo (c:=.own _ _) jf Z ⟨_,.t1⟩ Z)<|aa Z<|za (yi (j:=c.toNat) wy wz Z Z (by omega) ⟨_,.t3⟩ (by first|rfl|(simp[aD,aN];done)|(simp[aD,aN];omega)) (by omega))<|za (yz (j:=c.toNat) j6 Z ⟨_,.t3⟩ (hNg c hc0 hcn))<|aO Z Z<|z6<|zy Z (fun cy=>?_) (fun cy=>?_)
    ·have hne:y≠gi (bh S n) c:=by simpa using cy
     obtain ⟨hyV,hnx,hms⟩:=xq hG (hVe▸hcV) (by rw[hVe];exact hy) hne
     rw[hVe] at hyV hnx
     obtain ⟨hy0,hyn⟩:=hVr y hyV
     have hyl:y.toNat<rows.length:=by rw[hF.1];omega
     have hrl:=hF.len (qx hyl)
     refine zi<|zd<|zm<|ai<|aJ Z<|ap Z<|za (zf Zc Z Xj (by decide) Z Z)<|za (zo (c:=eh _ _) isAgg70 Z ⟨_,.t1⟩ Z)<|aa Z<|za (qp (j:=y.toNat) jh j7 Z Z (by omega) (by omega))<|qc (j:=y.toNat) (r:=rows[y.toNat]) jf Z (qt hyl) (fun _=>.head)<|fun i58=>aa Z<|zu Z (zj (.l (.r (.r (.r (.r (.rest _))))))) (p6 rows[y.toNat] c i58 _ (by omega)) ?_
     rintro r60 O60 ⟨rfl,rfl⟩
     refine aC Z<|ze (aS.nestBack (r:=rows[y.toNat]) .head .head) ?_
     rw[List.set_getElem_self]
     refine z6<|zy Z (fun cin=>?_) (fun cin=>?_)
     ·have hnin:c ∉ rows[y.toNat]:=by simpa using cin
      refine ye (γ:=Unit) [0,2,7,10,12,13,14,21,22,23] (fun u=>[]) (fun u=>[(t,.cells 130 [.own a n,.own b n,x,eh fb n]),(b,.grow 1 3 (cI (bO S n))),(a,.grow 1 3 (cI (bh S n))),(0,dv eI 23 3 fb (rows.set y.toNat (rows[y.toNat]++[c])))]) (fun u=>True) ?_ (fun _ _ h=>h) ?_
      ·refine zr (fun j=>Nat.beq j 16) (by kernel_rfl) Z (zj (.l (.r (.r (.r (.rest _))))))<|ad 0 Z (cJ Z)<|ad 1 Z (zw Z)<|ad 2 Z (zf Zc Z Xj (by decide) Z Z)<|ad 3 Z (zo (c:=eh _ _) isAgg70 Z ⟨_,.head⟩ Z)<|ad 4 Z (cD Z)<|ad 5 Z (cJ Z)<|ad 6 Z (zw Z)<|ad 7 Z (zf Zc Z Xj (by decide) Z Z)<|ad 8 Z (zo (c:=eh _ _) isAgg70 Z ⟨_,.head⟩ Z)<|ad 9 Z (cD Z)<|ad 10 Z (qp (j:=y.toNat) jh j7 Z Z (by omega) (by omega))<|ad 12 Z (cD Z)<|yr (i:=11) (j:=13) Z Z (by kernel_rfl) ?_ ?_
       ·refine qc (j:=y.toNat) (r:=rows[y.toNat]) jf Z (qt hyl) (fun _=>.head)<|fun i73=>z6<|aQ 13 Z<|y4 (rows:=[[_]]) cS Z Z Z Z Z<|z6<|aQ 14 Z<|yu (k:=1) wy Y1 Z Z Z Z Z (fun _=>.head) (by rw[eI.av_len];rfl) (by decide) Z (by show (_+1)*8≤_;omega) (by show _+1≤_;omega)<|fun i76=>z6<|ad 15 Z (qp (j:=y.toNat) jh j7 Z Z (by omega) (by omega))<|yf<|yh (i:=16) Z (by kernel_rfl) (by kernel_rfl)<|qq (j:=y.toNat) (r:=rows[y.toNat]++[c]) j7 Z Z (by omega) .t3 .t3 Z (eI.av_push _ _) (by simp)<|z6<|ym (by kernel_rfl) ?_
        exact ⟨(),oc,trivial,aH,trivial⟩
       ·refine y4 (rows:=[[_]]) cS Z Z Z Z Z<|z6<|aQ 11 Z<|qc (j:=y.toNat) (r:=rows[y.toNat]) jf Z (qt hyl) (fun _=>.head)<|fun i73=>z6<|aQ 14 Z<|yu (k:=1) wy Y1 Z Z Z Z Z (fun _=>.head) (by rw[eI.av_len];rfl) (by decide) Z (by show (_+1)*8≤_;omega) (by show _+1≤_;omega)<|fun i76=>z6<|ad 15 Z (qp (j:=y.toNat) jh j7 Z Z (by omega) (by omega))<|yf<|yh (i:=16) Z (by kernel_rfl) (by kernel_rfl)<|qq (j:=y.toNat) (r:=rows[y.toNat]++[c]) j7 Z Z (by omega) .t3 .t3 Z (eI.av_push _ _) (by simp)<|z6<|ym (by kernel_rfl) ?_
        exact ⟨(),oc,trivial,aH,trivial⟩
      ·rintro _ _
       refine zz (zb (zc .t3))<|aW<|aJ Z<|ap Z<|za (zf Zc Z j7 (by decide) Z Z)<|za (zo (c:=.own _ _) jf Z ⟨_,.t1⟩ Z)<|aa Z<|za (yi (j:=y.toNat) wy wz Z Z (by omega) ⟨_,.t3⟩ (by first|rfl|(simp[aD,aN];done)|(simp[aD,aN];omega)) (by omega))<|za (yz (j:=y.toNat) j6 Z ⟨_,.t3⟩ (hNg y hy0 hyn))<|ao Z<|z6 ?_
       exact ⟨(gi (bh S n) y,rows.set y.toNat (rows[y.toNat]++[c])),sY,aK,aH,⟨hnx,hF.push hyl hc0 hcn hnin⟩,by dsimp only;omega⟩
     ·refine zi<|aW<|aJ Z<|ap Z<|za (zf Zc Z j7 (by decide) Z Z)<|za (zo (c:=.own _ _) jf Z ⟨_,.t1⟩ Z)<|aa Z<|za (yi (j:=y.toNat) wy wz Z Z (by omega) ⟨_,.t3⟩ (by first|rfl|(simp[aD,aN];done)|(simp[aD,aN];omega)) (by omega))<|za (yz (j:=y.toNat) j6 Z ⟨_,.t3⟩ (hNg y hy0 hyn))<|ao Z<|z6 ?_
      exact ⟨(gi (bh S n) y,rows),sY,aK,aH,⟨hnx,hF⟩,by dsimp only;omega⟩
    ·refine y6<|aW<|aE Z Z<|aa Z<|z6 ?_
     exact ⟨(j+1,rows),wH,aK,aH,⟨hj2,hF⟩,by dsimp only;omega⟩
  ·refine y6<|aW<|aE Z Z<|aa Z<|z6 ?_
   exact ⟨(k+1,rows),gH,aK,aH,⟨hk2,hF⟩,by dsimp only;omega⟩
 ·refine y6<|ai<|aJ Z<|ap Z<|za (zf Zc Z Xj (by decide) Z Z)<|za (zo (c:=eh _ _) isAgg70 Z ⟨_,.t1⟩ Z)<|za (Gv.lenN jh Z)<|aa Z<|z6<|zm<|y8 (γ:=Nat × List (List Int)) [0,84] (fun g=>[(85,.int .i64 g.1)]) (fun g=>[(0,dv eI 23 3 fb g.2),(t,.cells 130 [.own a n,.own b n,x,eh fb n]),(b,.grow 1 3 (cI (bO S n))),(a,.grow 1 3 (cI (bh S n)))]) (fun g=>g.1≤n∧uf n g.2) (fun g=>n - g.1) (0,rows) aK aH (⟨qw _,hF⟩) ?_
  rintro ⟨m,rows⟩ ⟨hm,hF⟩
  try dsimp only at *
  refine ai<|ay Z Z<|z6<|zd<|zt Z (fun cm=>?_) (fun cm=>?_)
  ·have hm2:m<n:=by simp at cm;omega
   have hml:m<rows.length:=by rw[hF.1];omega
   have hrl:=hF.len (qx hml)
   refine zi<|zd<|zm<|ai<|aa Z<|ao Z<|z6<|aW<|aJ Z<|ap Z<|za (zf Zc Z Xj (by decide) Z Z)<|za (zo (c:=eh _ _) isAgg70 Z ⟨_,.t1⟩ Z)<|aa Z<|za (qp (j:=m) jh j7 Z Z Z (by omega))<|qc (j:=m) (r:=rows[m]) jf Z (qt hml) (fun _=>.head)<|fun i94=>zu Z (zj (.l (.r (.r (.r (.r (.rest _))))))) (Bg rows[m] i94 _ (by omega)) ?_
   rintro r95 O95 ⟨rfl,rfl⟩
   refine z6<|zz (aS.nestBackN (r:=km rows[m]) (eN _).length_eq .head .head)<|aW<|aE Z Z<|aa Z<|z6 ?_
   exact ⟨(m+1,rows.set m (km rows[m])),eo,aK,aH,⟨hm2,hF.sort hml⟩,by dsimp only;omega⟩
  ·refine y6<|yl ?_
   exact ⟨rfl,rows,hF,rfl⟩
end Go.Proofs.YtdilpodccjlkgaaGreatDoor
