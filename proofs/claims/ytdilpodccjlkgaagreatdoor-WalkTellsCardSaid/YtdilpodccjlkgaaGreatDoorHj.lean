/- What is found among numbers; the fronts. No conditions but bounds. -/
import Derived.Test.YtdilpodccjlkgaaGreatDoorHe
import Derived.Test.YtdilpodccjlkgaaGreatDoorHi
import Derived.Test.YtdilpodccjlkgaaGreatDoorHh
import Derived.Test.YtdilpodccjlkgaaGreatDoorHc
set_option linter.unusedVariables false
set_option linter.unusedSimpArgs false
set_option linter.unusedSectionVars false
namespace Go.Proofs.YtdilpodccjlkgaaGreatDoor
open Go.Proofs.Tryz
def mh (l:List Bool) (bs:List Int):List Bool:=bs.foldl (fun l b=>l.set b.toNat true) l
theorem iE:∀(bs:List Int) (l:List Bool),(mh l bs).length=l.length
 |[],_=>rfl
 |b::bs,l=>by show (mh (l.set b.toNat true) bs).length=_;rw[iE bs,List.length_set]
theorem vM (l:List Bool) (bs:List Int) (b:Int):mh l (bs++[b])=(mh l bs).set b.toNat true:=by unfold mh;rw[List.foldl_append];rfl
theorem rz (k:Nat):∀(bs:List Int) (l:List Bool),(∀b∈bs,0≤b)→k<l.length→(mh l bs)[k]?=some (decide ((k:Int)∈bs)||(l[k]?).getD false)
 |[],l,_,hk=>by show l[k]?=_;rw[qk hk];simp
 |b::bs,l,h,hk=>by
  show (mh (l.set b.toNat true) bs)[k]?=_
  rw[rz k bs _ (fun c hc=>h c (.tail _ hc)) (by rw[List.length_set];exact hk),List.getElem?_set]
  have h0:=h b (.head _)
  by_cases e:b.toNat=k
  ·have:(k:Int)=b:=by omega
   rw[if_pos e,if_pos (by omega),this];simp
  ·have:¬(k:Int)=b:=by omega
   rw[if_neg e];simp[this]
def fQ (E:Int→List Int) (n:Nat):List Bool:=mh (List.replicate n false) (aA E n)
theorem oW (E:Int→List Int) (n:Nat):(fQ E n).length=n:=by unfold fQ;rw[iE];simp
theorem oX {E:Int→List Int} {n:Nat} (hE:EOk E n) {k:Nat} (hk:k<n):(fQ E n)[k]?=some (decide ((k:Int)∈aA E n)):=by
 unfold fQ
 rw[rz k _ _ (fun b hb=>(b3 hE hb).1) (by simp;exact hk)]
 simp[hk]
theorem lG {f:ad} (hE:bV f):(fQ (ah f) f.blocks.length).contains false=false↔Bd f:=by
 have hG:=hE.grph.toEOk
 constructor
 ·intro h i hi
  have hg:=oX hG hi
  apply (bP hG _).1
  apply Classical.byContradiction
  intro hn
  rw[qy hn] at hg
  have:=qu hg
  rw[Bool.eq_false_iff] at h
  exact h (by simpa using this)
 ·intro h
  rw[Bool.eq_false_iff]
  intro hc
  have hc:false∈fQ (ah f) f.blocks.length:=by simpa using hc
  obtain ⟨k,hk,e⟩:=List.getElem_of_mem hc
  have hk2:=hk
  rw[oW] at hk2
  have hg:=oX hG hk2
  rw[qk hk,e] at hg
  have hm:=(bP hG (k:Int)).2 (h k hk2)
  rw[qx hm] at hg
  cases hg
def CC (f:ad) (i:Nat) (p:e7):Bool:=decide (jQ p.from_=bd (ah f) f.blocks.length i)
def Bu (f:ad) (i:Nat):Bool:=((f.blocks[i]?).map fun b=>b.phis.all (CC f i)).getD true
def di (f:ad):Bool:=(List.range f.blocks.length).all (Bu f)
theorem kX {f:ad} {i:Nat} {b:aY} (h:f.blocks[i]?=some b):Bu f i=b.phis.all (CC f i):=by unfold Bu;rw[h];rfl
theorem uc (f:ad):di f=true↔Bc f:=by
 unfold di Bc
 rw[w3]
 constructor
 ·intro h i hi p hp
  have:=h i (List.mem_range.2 hi)
  rw[kX (qk hi),w3] at this
  exact mM.1 (by simpa [CC] using this p hp)
 ·intro h i hi
  have hi:=List.mem_range.1 hi
  rw[kX (qk hi),w3]
  intro p hp
  simpa [CC] using mM.2 (h i hi p hp)
theorem cO {p:Nat→Bool} {k:Nat} (h:(List.range k).all p=true) (hk:p k=true):(List.range (k+1)).all p=true:=by rw[List.range_succ,List.all_append,h];simp[hk]
theorem dP {p:Nat→Bool} {k n:Nat} (hk:k<n) (h:p k=false):(List.range n).all p=false:=by
 rw[Bool.eq_false_iff];intro ha
 have:=List.all_eq_true.1 ha k (List.mem_range.2 hk)
 rw[h] at this;cases this
def cF {α:Type} (n:Nat) (ev:List (Int × α)):List (List α):=(List.range n).map fun (v:Nat)=>(ev.filter fun e=>decide (e.1=(v:Int))).map (·.2)
theorem cP {α:Type} (n:Nat) (ev:List (Int × α)):(cF n ev).length=n:=by unfold cF;simp
theorem eG {α:Type} {n:Nat} (ev:List (Int × α)) {v:Nat} (h:v<n):(cF n ev)[v]?=some ((ev.filter fun e=>decide (e.1=(v:Int))).map (·.2)):=by unfold cF;rw[qs,List.getElem?_range h];rfl
theorem oY {α:Type} (n:Nat):List.replicate n []=cF (α:=α) n []:=by
 apply List.ext_getElem
 ·rw[cP];simp
 ·intro i h1 h2;unfold cF;simp
theorem iX {α:Type} {n:Nat} {ev:List (Int × α)} {v:Nat} (h:v<(cF n ev).length):(cF n ev)[v].length≤ev.length:=by
 have h2:v<n:=by rwa [cP] at h
 have:=eG ev h2
 rw[qk h] at this
 rw[Option.some.inj this,qr]
 exact List.length_filter_le _ _
theorem ks {α:Type} {n:Nat} {ev:List (Int × α)} {c:Int} {x:α} (h0:0≤c) (h:c.toNat<(cF n ev).length):(cF n ev).set c.toNat ((cF n ev)[c.toNat]++[x])=cF n (ev++[(c,x)]):=by
 have h2:c.toNat<n:=by rwa [cP] at h
 apply List.ext_getElem?
 intro v
 rw[List.getElem?_set]
 by_cases hv:v<n
 ·rw[eG _ hv]
  have hr:=eG ev h2
  rw[qk h] at hr
  rw[Option.some.inj hr]
  by_cases e:c.toNat=v
  ·have:c=(v:Int):=by omega
   rw[if_pos e,if_pos (by rw[cP];omega),eG _ hv]
   have e2:((c.toNat:Nat):Int)=c:=by omega
   rw[e2,this,List.filter_append,qv]
   simp
  ·have:¬c=(v:Int):=by omega
   rw[if_neg e,eG _ hv]
   simp[List.filter_append,this]
 ·have hn:(cF n (ev++[(c,x)]))[v]?=none:=List.getElem?_eq_none (by rw[cP];omega)
  rw[if_neg (by omega),hn,List.getElem?_eq_none (by rw[cP];omega)]
def dC (i:Nat) (ps:List e7):List (Int × gH):=ps.map fun p=>(p.dst,((i:Int),-1))
def f6 (i:Nat) (xs:List aF):List (Int × gH):=(xs.zipIdx.filter fun x=>decide (0≤x.1.dst)).map fun x=>(x.1.dst,((i:Int),(x.2:Int)))
def oZ (i:Nat) (b:aY):List (Int × gH):=dC i b.phis++f6 i b.insts
def dz (f:ad) (k:Nat):List (Int × gH):=((f.blocks.take k).zipIdx).flatMap fun b=>oZ b.2 b.1
theorem su {α:Type} {l:List α} {k:Nat} (h:k<l.length):(l.take (k+1)).zipIdx=(l.take k).zipIdx++[(l[k],k)]:=by
 rw[ql h,List.zipIdx_append,List.length_take,Nat.min_eq_left (by omega)]
 simp
theorem kY (i:Nat) {ps:List e7} {j:Nat} (h:j<ps.length):dC i (ps.take (j+1))=dC i (ps.take j)++[(ps[j].dst,((i:Int),-1))]:=by
 unfold dC;rw[ql h,qv];rfl
theorem iF (i:Nat) {xs:List aF} {j:Nat} (h:j<xs.length):f6 i (xs.take (j+1))=f6 i (xs.take j)++if 0≤xs[j].dst then[(xs[j].dst,((i:Int),(j:Int)))] else[]:=by
 unfold f6;rw[su h,List.filter_append,qv]
 by_cases h0:0≤xs[j].dst
 ·simp[h0]
 ·simp[h0]
theorem fR {f:ad} {k:Nat} (h:k<f.blocks.length):dz f (k+1)=dz f k++oZ k f.blocks[k]:=by
 unfold dz;rw[su h,List.flatMap_append];simp
theorem o5 (i:Nat) (xs:List aF):(f6 i xs).length≤xs.length:=by
 unfold f6;rw[qr];exact Nat.le_trans (List.length_filter_le _ _) (by simp)
theorem Bv (i:Nat) (b:aY):(oZ i b).length≤b.phis.length+b.insts.length:=by
 have:=o5 i b.insts
 unfold oZ dC;rw[qq,qr];omega
theorem ud {f:ad} {m:Nat} (h:∀b∈f.blocks,b.phis.length+b.insts.length≤m):∀k,k≤f.blocks.length→(dz f k).length≤k*m
 |0,_=>by simp[dz]
 |k+1,hk=>by
  have h1:=ud h k (by omega)
  have h2:=Bv k f.blocks[k]
  have h3:=h _ (qo (show k<f.blocks.length by omega))
  rw[fR (by omega),qq,Nat.add_mul];omega
theorem Dp (i v:Nat) (b:aY):((oZ i b).filter fun e=>decide (e.1=(v:Int))).map (·.2)=rp v i b:=by
 unfold oZ dC f6 rp
 rw[List.filter_append,qv,List.filter_map,List.map_map,List.filter_map,List.map_map,List.filter_filter]
 congr 1
 congr 1
 apply List.filter_congr
 intro x _
 by_cases e:x.1.dst=(v:Int)
 ·have:0≤x.1.dst:=by omega
  simp[e]
 ·simp[e]
theorem mi (f:ad) (v:Nat):((dz f f.blocks.length).filter fun e=>decide (e.1=(v:Int))).map (·.2)=bu f v:=by
 unfold dz bu
 rw[qp,List.filter_flatMap,List.map_flatMap]
 congr 1
 funext b
 exact Dp b.2 v b.1
def o6 (f:ad):List (List gH):=cF f.vars.length (dz f f.blocks.length)
theorem o7 {f:ad} {v:Nat} (h:v<f.vars.length):(o6 f)[v]?=some (bu f v):=by unfold o6;rw[eG _ h,mi]
theorem vN (f:ad):(o6 f).length=f.vars.length:=cP _ _
def iG (f:ad) (v:Nat):Bool:=!(decide (1<(bu f v).length)||decide (0<(bu f v).length)&&decide (v<f.params.length))
def ll (f:ad):Bool:=(List.range f.vars.length).all (iG f)
theorem yU (f:ad):ll f=true↔w8 f:=by
 unfold ll w8 iG
 rw[w3]
 constructor
 ·intro h v hv
  have:=h v (List.mem_range.2 hv)
  simp only[Bool.not_eq_true',Bool.or_eq_false_iff,Bool.and_eq_false_iff,decide_eq_false_iff_not] at this
  refine ⟨by omega,fun hne=>?_⟩
  have hl:=List.length_pos_iff.2 hne
  rcases this.2 with h1|h1<;>omega
 ·intro h v hv
  obtain ⟨h1,h2⟩:=h v (List.mem_range.1 hv)
  simp only[Bool.not_eq_true',Bool.or_eq_false_iff,Bool.and_eq_false_iff,decide_eq_false_iff_not]
  refine ⟨by omega,?_⟩
  by_cases e:bu f v=[]
  ·left;rw[e];simp
  ·right;have:=h2 e;omega
def cE (f:ad):List gH:=(List.range f.vars.length).map fun (v:Nat)=>aL f v
theorem nf {f:ad} {v:Nat} (h:v<f.vars.length):(cE f)[v]?=some (aL f v):=by unfold cE;rw[qs,List.getElem?_range h];rfl
theorem ku (f:ad):(cE f).length=f.vars.length:=by simp[cE]
def eQ (f:ad) (m:gH) (b at_:Int):Bool:=if m.1<0 then true else if m.1=b then decide (m.2<at_) else er (ah f) f.blocks.length m.1 b
theorem gM {f:ad} (hE:bV f) (m:gH) (b at_:Int):eQ f m b at_=true↔kn f m b at_:=by
 unfold eQ kn
 by_cases h0:m.1<0
 ·rw[if_pos h0];simp[h0]
 ·rw[if_neg h0]
  by_cases h1:m.1=b
  ·rw[if_pos h1];simp[h1];omega
  ·rw[if_neg h1,hE.grph.domB_iff]
   constructor
   ·intro h;exact .inr (.inr ⟨by omega,h1,h⟩)
   ·rintro (h|h|h)
    ·exact absurd h h0
    ·exact absurd h.1 h1
    ·exact h.2.2
def EW (f:ad) (p:e7):Bool:=(p.args.zip p.from_).all fun q=>eQ f (aL f q.1) q.2 (iC f q.2)
def Bw (f:ad) (i:Nat) (x:aF × Nat):Bool:=x.1.args.all fun v=>eQ f (aL f v) i x.2
def Fv (f:ad) (i:Nat) (b:aY):Bool:=decide (b.term.kind=0)||eQ f (aL f b.term.var) i b.insts.length
def qD (f:ad) (i:Nat) (b:aY):Bool:=b.phis.all (EW f)&&b.insts.zipIdx.all (Bw f i)&&Fv f i b
def F5 (f:ad) (i:Nat):Bool:=((f.blocks[i]?).map (qD f i)).getD true
def vO (f:ad):Bool:=(List.range f.blocks.length).all (F5 f)
theorem o8 {f:ad} {i:Nat} {b:aY} (h:f.blocks[i]?=some b):F5 f i=qD f i b:=by unfold F5;rw[h];rfl
theorem ue {f:ad} (hE:bV f) (i:Nat) (b:aY):qD f i b=true↔si f i b:=by
 unfold qD si
 rw[qz,qz,and_assoc]
 refine and_congr ?_ (and_congr ?_ ?_)
 ·rw[w3]
  refine forall_congr' fun p=>forall_congr' fun _=>?_
  unfold EW
  rw[w3]
  exact forall_congr' fun q=>forall_congr' fun _=>gM hE _ _ _
 ·rw[w3]
  constructor
  ·intro h k hk v hv
   have:=h (b.insts[k],k) (List.mem_zipIdx_iff_getElem?.2 (qk hk))
   unfold Bw at this
   rw[w3] at this
   exact (gM hE _ _ _).1 (this v hv)
  ·intro h x hx
   have hx:=List.mem_zipIdx_iff_getElem?.1 hx
   obtain ⟨hk,e⟩:=List.getElem?_eq_some_iff.1 hx
   unfold Bw
   rw[w3]
   intro v hv
   exact (gM hE _ _ _).2 (h x.2 hk v (by rw[e];exact hv))
 ·unfold Fv
  rw[Bool.or_eq_true,w6,gM hE]
theorem Bx {f:ad} (hE:bV f):vO f=true↔EP f:=by
 unfold vO EP
 rw[w3]
 constructor
 ·intro h i hi
  have:=h i (List.mem_range.2 hi)
  rw[o8 (qk hi)] at this
  exact (ue hE _ _).1 this
 ·intro h i hi
  have hi:=List.mem_range.1 hi
  rw[o8 (qk hi)]
  exact (ue hE _ _).2 (h i hi)
def dv (f:ad):Bool:=di f&&(!(fQ (ah f) f.blocks.length).contains false&&(ll f&&vO f))
theorem yV {f:ad} (hE:bV f):dv f=true↔Be f:=by
 unfold dv Be
 rw[qz,qz,qz,Bool.not_eq_true',uc,lG hE,yU,Bx hE]
end Go.Proofs.YtdilpodccjlkgaaGreatDoor
namespace Go.Proofs.YtdilpodccjlkgaaGreatDoor
open Go.Proofs.Tryz
open Go.Proofs Go.Lib Go.Shelf Go.RowKit
variable {E:World}
set_option maxRecDepth 20000
theorem iY (f:ad) (hf:small f) (hL:bB E):aK prog E 64 [.agg (bD f)] (.bool (bj f)):=by
 refine zq func64 U (by decide) U<|ae<|y9 (cs:=_) U U U<|ab U<|z6<|ae<|ac ju jf U U<|ze (oV f hf hL) U<|ai U U<|ab U<|z6<|zi<|zm (x:=.bool _) U ?_
 cases bj f<;>rfl
theorem dL {f:ad} (h:bj f=true):bV f:=by
 unfold bj at h
 rw[qz,gL] at h
 exact (w4 h.1).ends
theorem ng (f:ad) (hf:small f) (hL:bB E) (ht:bj f=true):aK prog E 35 [.agg (bD f)] (lg eI (cS f f.blocks.length)):=by
 have hn:=hf.2.2.1
 refine zq func35 U (by decide) U<|ae<|y9 (cs:=_) U U U<|bF U<|z6<|zd<|ae<|ac ju jf U U<|ze (iY f hf hL) U<|aB U<|z6<|yg U (by rw[ht];rfl)<|zg<|ae<|ac ju jf U U<|ze (oI f (dL ht) (by omega)) U<|za (kO U)<|z6<|zi<|zm (x:=.fro _ _) U ?_
 rfl
theorem nh (f:ad) (hE:bV f) (hn:f.blocks.length≤1000):aK prog E 98 [.agg (bD f)] (.fro 1 ((aA (ah f) f.blocks.length).map cW)):=
 vC f hE (by omega) fun l i T h=>tN l i T h
theorem uf (f:ad) (hf:small f) (hL:bB E) (ht:bj f=true):aK prog E 58 [.agg (bD f)] (.fro 1 ((aA (ah f) f.blocks.length).map cW)):=by
 have hn:=hf.2.2.1
 refine zq func58 U (by decide) U<|ae<|y9 (cs:=_) U U U<|bF U<|z6<|zd<|ae<|ac ju jf U U<|ze (iY f hf hL) U<|aB U<|z6<|yg U (by rw[ht];rfl)<|zg<|ae<|ac ju jf U U<|ze (nh f (dL ht) (by omega)) U<|za (kO U)<|z6<|zi<|zm (x:=.fro _ _) U ?_
 rfl
def nF (x:Bool):List AV:=[.bool x]
theorem vP (f:ad) (hE:bV f) (hn:f.blocks.length≤1000):aK prog E 129 [.agg (bD f)] (.fro 1 ((fQ (ah f) f.blocks.length).map nF)):=by
 have hG:=hE.grph
 have hol:=fg hG
 refine zq func129 U (by decide) U<|ae<|y9 (cs:=_) U U U<|bF U<|z6<|ae<|ao jg U Z6 U U<|aI Zd U<|ar jk U<|az.makeB (m:=f.blocks.length) jx type4 U U U U U (by simp) (by simp) (by show (1:Int)*_≤_;omega) (by omega)<|fun i9=>za (gZ U)<|z6<|zd<|ae<|ac ju jf U U<|ze (nh f hE hn) U<|ar wz U<|aa U<|z6<|zj<|y8 (γ:=Nat) [3,11,12] (fun k=>[(13,.int .i64 k)]) (fun k=>[(i9,.grow 1 4 (cB (mh (List.replicate f.blocks.length false) ((aA (ah f) f.blocks.length).take k))))]) (fun k=>k≤(aA (ah f) f.blocks.length).length) (fun k=>(aA (ah f) f.blocks.length).length - k) 0 aH aD (qn _) ?_
 rintro k hk
 refine ae<|ax U U<|z6<|zd<|zu U (fun ck=>?_) (fun ck=>?_)
 ·have hk2:k<(aA (ah f) f.blocks.length).length:=by simp at ck;omega
  obtain ⟨b,hb⟩:∃b,(aA (ah f) f.blocks.length)[k]=b:=⟨_,rfl⟩
  have hr:=b3 hG.toEOk (hb▸qo hk2)
  refine zg<|zd<|zj<|ae<|za (bh k wz j6 U U U (by rw[qk hk2,hb])) ?_
  refine ay j7 U<|ap U<|z6<|aO<|bz U<|aa U<|za (yp (j:=b.toNat) jx Zc U U (by omega) ⟨_,.head⟩ (by rw[aW,iE];simp) (by omega))<|qg (j:=b.toNat) Zc U U .head (by rw[iE];simp;omega)<|z6<|aO<|aC U U<|aa U<|z6 ?_
  exact ⟨k+1,de,aH,⟨_,(.refl _),by rw[ql hk2,vM,hb]⟩,hk2,by omega⟩
 ·have hkn:k=(aA (ah f) f.blocks.length).length:=by simp at ck;omega
  subst hkn
  rw[qp]
  refine y7<|ae<|bz U<|za (gZ U)<|z6<|y3 (aX.knowB (t:=2) U .head (by rw[iE];simp))<|zi<|zm (x:=.fro _ _) U ?_
  rfl
theorem ug (f:ad) (hf:small f) (hL:bB E) (ht:bj f=true):aK prog E 94 [.agg (bD f)] (.fro 1 ((fQ (ah f) f.blocks.length).map nF)):=by
 have hn:=hf.2.2.1
 refine zq func94 U (by decide) U<|ae<|y9 (cs:=_) U U U<|bF U<|z6<|zd<|ae<|ac ju jf U U<|ze (iY f hf hL) U<|aB U<|z6<|yg U (by rw[ht];rfl)<|zg<|ae<|ac ju jf U U<|ze (vP f (dL ht) (by omega)) U<|za (kO U)<|z6<|zi<|zm (x:=.fro _ _) U ?_
 rfl
theorem uh (xs:List Bool) (v:Bool) (hl:xs.length≤281474976710656):aK prog E 128 [.fro 1 (xs.map nF),.bool v] (.int .i64 (cK (fun x=>decide (v=x)) xs 0)):=by
 refine zq func128 U (by decide) U<|ae<|ap U<|z6<|zd<|ae<|aT U<|ar jx U<|aa U<|z6<|zj<|y8 (γ:=Nat) [0,1,7] (fun k=>[(8,.int .i64 k)]) (fun k=>[]) (fun k=>k≤xs.length∧(xs.take k).all (fun x=>!decide (v=x))) (fun k=>xs.length - k) 0 aH aD (⟨qn _,U⟩) ?_
 rintro k ⟨hk,hall⟩
 refine ae<|ax U U<|z6<|zd<|zu U (fun ck=>?_) (fun ck=>?_)
 ·have hk2:k<xs.length:=by simp at ck;omega
  refine zg<|zd<|zj<|ae<|aa U<|ap U<|z6<|ae<|aj U<|aT U<|aa U<|za (bh k jx Zc U U U (qk hk2))<|za (yn (c:=.bool _) Y7 U)<|za (Gv.eqlB Y0 U U)<|z6<|zy U (fun cp=>?_) (fun cp=>?_)
  ·refine ae<|aa U<|ap U<|z6<|zi<|zm (x:=.int _ _) U ?_
   rw[bK _ xs k hk hall,List.drop_eq_getElem_cons hk2,cK,if_pos (by simpa using cp)]
  ·refine zg<|aO<|aC U U<|aa U<|z6 ?_
   exact ⟨k+1,de,aH,aD,⟨hk2,by rw[ql hk2,List.all_append,hall];simpa using cp⟩,by omega⟩
 ·have hkn:k=xs.length:=by simp at ck;omega
  refine y7<|ae<|ap U<|z6<|zi<|zm (x:=.int _ _) U ?_
  rw[bK _ xs k hk hall,hkn,List.drop_length,cK]
theorem o9 (xs:List Bool) (v:Bool) (hl:xs.length≤281474976710656):aK prog E 93 [.fro 1 (xs.map nF),.bool v] (.bool (xs.contains v)):=by
 refine zq func93 U (by decide) U<|ae<|ab U<|z6<|ae<|aT U<|aj U<|ze (uh xs v hl) U<|za (yy U U)<|ab U<|z6<|zi<|zm (x:=.bool _) U ?_
 rw[eK];congr 1;rw[qt];simp
theorem EX (xs:List Int) (hl:xs.length≤1000):aR prog E 120 [.fro 1 (xs.map cW)] [] (fun x O'=>∃i:Nat,x=.own i xs.length∧O'=[(i,.grow 1 3 (cI xs))]):=by
 refine zq func120 U (by decide) U<|ae<|bF U<|z6<|zd<|ae<|aT U<|az.isNil wz U U (fun hnil=>?_) ?_
 ·have hx:xs=[]:=by simpa using hnil
  subst hx
  refine z6<|yl U U<|ae<|bF U<|z6<|zi ?_
  repeat (first|refine fM ?_|refine ez ?_)
  refine qT (s:=2) (k:=1) (T:=3) U (fun i=>?_)
  refine zm (x:=.own _ _) U ?_
  exact ⟨i,rfl,rfl⟩
 ·refine z6<|yg U U<|zg<|ae<|az.buildSlice0 (k:=1) wz X8<|fun i5=>aT U<|yj (k:=1) wz X8 U U U U U (fun _=>.head) (by simp) (by decide) (tU (fun _=>U) xs) (by show (_+_)*8≤_;simp<;>omega) (by simp<;>omega)<|fun i7=>za (gZ U)<|z6<|zi<|zm (x:=.own _ _) U ?_
  exact ⟨i7,(by simp),by rw[←rV];rfl⟩
theorem iZ (f:ad) {k:Nat} (h:k<f.blocks.length):(cS f f.blocks.length)[k]?=some (bd (ah f) f.blocks.length (k:Int)):=by unfold cS;rw[qs,List.getElem?_range h];rfl
theorem ui (f:ad) (hE:bV f) (hf:small f):aK prog E 127 [.agg (bD f)] (.bool (di f)):=by
 have hn:=hf.2.2.1
 refine zq func127 U (by decide) U<|ae<|y9 (cs:=_) U U U<|ab U<|z6<|ae<|ac ju jf U U<|ze (oI f hE (by omega)) U<|za (kO U)<|z6<|zd<|ae<|ao jg U Z6 U U<|aI Zd U<|ar jk U<|aa U<|z6<|zj<|y8 (γ:=Nat) [3,12,13] (fun k=>[(14,.int .i64 k)]) (fun k=>[]) (fun k=>k≤f.blocks.length∧(List.range k).all (Bu f)=true) (fun k=>f.blocks.length - k) 0 aH aD (⟨qn _,U⟩) ?_
 rintro k ⟨hk,hall⟩
 refine ae<|ax U U<|z6<|zd<|zu U (fun ck=>?_) (fun ck=>?_)
 ·have hk2:k<f.blocks.length:=by simp at ck;omega
  obtain ⟨b,hbk⟩:∃b,f.blocks[k]=b:=⟨_,rfl⟩
  have hget:f.blocks[k]?=some b:=by rw[qk hk2,hbk]
  obtain ⟨hb0,hb1,hb2,hb3,hb4⟩:=hf.2.2.2.2 b (hbk▸qo hk2)
  refine zg<|zd<|zj<|ae<|aa U<|za (bh k jk Z0 U U U hget)<|ac Yk Z0 U U<|y6 (cs:=[.str ⟨#[]⟩,.raw (.slice none 0 0),.raw (.slice none 0 0),.int .i64 0,.int .i64 0,.int .i64 0,.int .i64 0]) Zn U U<|fun i5=>ap U<|y1 Z0 U U U U U U .head U<|zf (yf (t:=5) U .head)<|z6<|ae<|ao jj U Yg U U<|aI Ys U<|ar Z5 U<|aa U<|z6<|zj<|y8 (γ:=Nat) [3,4,12,13,14,20,21] (fun j=>[(22,.int .i64 j)]) (fun j=>[]) (fun j=>j≤b.phis.length∧(b.phis.take j).all (CC f k)=true) (fun j=>b.phis.length - j) 0 aH aD (⟨qn _,U⟩) ?_
  rintro j ⟨hj,hjall⟩
  refine ae<|ax U U<|z6<|zd<|zu U (fun cj=>?_) (fun cj=>?_)
  ·have hj2:j<b.phis.length:=by simp at cj;omega
   have hpf:=(hb3 _ (qo hj2)).2
   refine zg<|zd<|zj<|ae<|za (bh j Z5 Zf U U U (qk hj2))<|ac X0 Zf U U<|y6 (cs:=[.int .i64 0,.raw (.slice none 0 0),.raw (.slice none 0 0)]) Yc U U<|fun i7=>y1 Zf U U U U U U .head U<|zf (yf (t:=7) U .head)<|z6<|ae<|ao Z3 U j8 U U<|aI j9 U<|zr U (zh (.rest _)) (EX b.phis[j].from_ hpf) ?_
   rintro r28 O28 ⟨i8,rfl,rfl⟩
   refine za (gZ U)<|z6<|ae<|bz U<|zr U (zh (.l (.rest _))) (tO b.phis[j].from_ i8 _ (by omega)) ?_
   rintro r30 O30 ⟨rfl,rfl⟩
   refine z6<|y3 (aX.knowI (t:=8) U .head (by rw[(eB _).length_eq]))<|ae<|aT U<|aT U<|aa U<|za (bh k ji j8 U U U (iZ f hk2))<|aI j9 U<|ze (m9 (jQ b.phis[j].from_) (bd (ah f) f.blocks.length (k:Int)) (by unfold oA;rw[(eB _).length_eq];omega)) U<|aB U<|z6<|zy U (fun cq=>?_) (fun cq=>?_)
   ·refine ae<|ab U<|z6<|zi<|zm (x:=.bool _) U ?_
    rw[show di f=false from dP hk2 (by rw[kX hget];exact Bool.eq_false_iff.2 (dh hj2 (by simpa [CC] using cq)))]
   ·refine zg<|aO<|aC U U<|aa U<|z6 ?_
    exact ⟨j+1,lf,aH,aD,⟨hj2,bN hj2 hjall (by simpa [CC] using cq)⟩,by omega⟩
  ·have hjn:j=b.phis.length:=by simp at cj;omega
   subst hjn
   rw[qp] at hjall
   refine y7<|aO<|aC U U<|aa U<|z6 ?_
   exact ⟨k+1,de,aH,aD,⟨hk2,cO hall (by rw[kX hget];exact hjall)⟩,by omega⟩
 ·have hkn:k=f.blocks.length:=by simp at ck;omega
  subst hkn
  refine y7<|ae<|ab U<|z6<|zi<|zm (x:=.bool _) U ?_
  rw[show di f=true from hall]
theorem sv (f:ad) (hf:small f) (hL:bB E):aK prog E 92 [.agg (bD f)] (.int .i64 (if (bj f&&di f)=true then 0 else 3)):=by
 refine zq func92 U (by decide) U<|ae<|y9 (cs:=_) U U U<|ap U<|z6<|zd<|ae<|ac ju jf U U<|ze (iY f hf hL) U<|aB U<|aj U<|zo (s:=6) U (fun ct=>?_) (fun ct=>?_)
 ·refine z7 U U ct<|z7 U U ct<|z7 U U ct<|aq U ct U<|z6<|yl U U<|ae<|ap U<|z6<|zi<|zm (x:=.int _ _) U ?_
  rw[show bj f=false by simpa using ct];rfl
 ·have ht:bj f=true:=by simpa using ct
  refine z8 U U ct<|ac ju jf U U<|z8 U U ct<|ze (ui f (dL ht) hf) U<|z8 U U ct<|aB U<|au U ct U<|z6<|zy U (fun cj=>?_) (fun cj=>?_)
  ·refine ae<|ap U<|z6<|zi<|zm (x:=.int _ _) U ?_
   rw[show di f=false by simpa using cj];simp
  ·refine zg<|ae<|ap U<|z6<|zi<|zm (x:=.int _ _) U ?_
   rw[ht,show di f=true by simpa using cj];rfl
end Go.Proofs.YtdilpodccjlkgaaGreatDoor
namespace Go.Proofs.YtdilpodccjlkgaaGreatDoor
open Go.Proofs.Tryz
section
variable {S:Int→List Int} {at_:Int→Int} {V:List Int} {N:Int→Int}
theorem yW (hV:pU S at_ V) (hN:ie S at_ V N) {K:Nat} (hK:∀a b,a∈V→b∈V→at_ a+at_ b<K) {x y:Int} (hx:N x≠-1) (hy:N y≠-1) (hlt:at_ y<at_ x) :
  x≠0∧N (N x)≠-1∧at_ (N x)<at_ x∧dR N at_ K x y=dR N at_ K (N x) y:=by
 have h1:=(hV.pos x).1 (hN.mem x hx)
 have h2:=(hV.pos y).1 (hN.mem y hy)
 have h3:=hK x y (hN.mem x hx) (hN.mem y hy)
 have hx0:x≠0:=fun e=>by rw[e,hV.zero] at hlt;omega
 obtain ⟨g1,g2,g3⟩:=hN.near x hx0 hx
 refine ⟨hx0,g2,g3,?_⟩
 obtain ⟨k,rfl⟩:∃k,K=k+1:=⟨K - 1,by omega⟩
 have hm:=kR hV hN k (k+1) (N x) y g2 hy (by omega) (by omega)
 rw[hm]
 show (if x=y then x else if at_ y<at_ x then dR N at_ k (N x) y else dR N at_ k x (N y))=_
 rw[if_neg (fun e=>by rw[e] at hlt;omega),if_pos hlt]
theorem vQ (hV:pU S at_ V) (hN:ie S at_ V N) {K:Nat} (hK:∀a b,a∈V→b∈V→at_ a+at_ b<K) {x y:Int} (hx:N x≠-1) (hy:N y≠-1) (hlt:at_ x<at_ y) :
  y≠0∧N (N y)≠-1∧at_ (N y)<at_ y∧dR N at_ K x y=dR N at_ K x (N y):=by
 have h1:=(hV.pos x).1 (hN.mem x hx)
 have h2:=(hV.pos y).1 (hN.mem y hy)
 have h3:=hK x y (hN.mem x hx) (hN.mem y hy)
 have hy0:y≠0:=fun e=>by rw[e,hV.zero] at hlt;omega
 obtain ⟨g1,g2,g3⟩:=hN.near y hy0 hy
 refine ⟨hy0,g2,g3,?_⟩
 obtain ⟨k,rfl⟩:∃k,K=k+1:=⟨K - 1,by omega⟩
 have hm:=kR hV hN k (k+1) x (N y) hx g2 (by omega) (by omega)
 rw[hm]
 show (if x=y then x else if at_ y<at_ x then dR N at_ k (N x) y else dR N at_ k x (N y))=_
 rw[if_neg (fun e=>by rw[e] at hlt;omega),if_neg (by omega)]
theorem yX {K:Nat} (hK:0<K) (x:Int):dR N at_ K x x=x:=by
 obtain ⟨k,rfl⟩:∃k,K=k+1:=⟨K - 1,by omega⟩
 show (if x=x then x else _)=x
 rw[if_pos rfl]
end
def uj (n:Nat) (V:List Int) (k:Nat):List Int:=((V.take k).zipIdx).foldl (fun l p=>l.set p.1.toNat (p.2:Int)) (List.replicate n (-1))
theorem mQ {α:Type} {g:List Int→α→List Int} (h:∀l x,(g l x).length=l.length):∀(ws:List α) (l:List Int),(ws.foldl g l).length=l.length
 |[],_=>rfl
 |w::ws,l=>by rw[List.foldl_cons,mQ h ws,h]
theorem pa (n:Nat) (V:List Int) (k:Nat):(uj n V k).length=n:=by unfold uj;rw[mQ (fun l x=>List.length_set)];simp
theorem yY {n:Nat} {V:List Int} {k:Nat} (h:k<V.length):(uj n V k).set V[k].toNat (k:Int)=uj n V (k+1):=by
 unfold uj;rw[su h,List.foldl_append];rfl
theorem uk (n:Nat) (V:List Int):uj n V V.length=dT n V:=by unfold uj dT;rw[qp]
section
variable {S:Int→List Int} {at_ V:List Int} {preds:Int→List Int} {n:Nat}
def pb (at_:List Int) (K:Nat) (preds:Int→List Int) (V l:List Int) (q:Nat):List Int:=((V.drop 1).take q).foldl (iB at_ K preds) l
theorem vR {K q:Nat} {l:List Int} (h:q<(V.drop 1).length):pb at_ K preds V l (q+1)=iB at_ K preds (pb at_ K preds V l q) (V.drop 1)[q]:=by
 unfold pb;rw[ql h,List.foldl_append];rfl
theorem yZ {K:Nat} {l:List Int}:pb at_ K preds V l (V.drop 1).length=ri at_ K preds V l:=by
 unfold pb ri;rw[qp,List.drop_one]
theorem zA {K q:Nat} (l:List Int):(pb at_ K preds V l q).length=l.length:=oC K _ _
end
section
variable {E:Int→List Int} {n:Nat}
theorem rA (hE:eV E n) {b p:Int} (h:p∈bd E n b):0≤p∧p<n:=by
 unfold bd at h
 obtain ⟨i,h1,h2⟩:=List.mem_flatMap.1 h
 obtain ⟨c,_,rfl⟩:=List.mem_map.1 h2
 exact cM.1 h1
def bi (E:Int→List Int) (n:Nat):List Int:=(bl E n).set 0 (-1)
theorem fi (E:Int→List Int) (n:Nat):(bi E n).length=n:=by unfold bi;rw[List.length_set,kT]
theorem ei {b:Int} (h0:0≤b) (hb:b≠0):gi (bi E n) b=gi (bl E n) b:=by
 unfold bi gi
 rw[if_pos h0,if_pos h0,List.getElem?_set_ne (by omega)]
theorem nS (hn:0<n):gi (bi E n) 0=-1:=by
 unfold bi gi
 rw[if_pos (Int.le_refl _)]
 simp[kT,hn]
end
theorem vS (N at_:Int→Int) (K:Nat) (p:Int) (ps:List Int) (m:Int):fI N at_ K (p::ps) m=fI N at_ K ps (if at_ p=-1∨N p=-1 then m else if m=-1 then p else dR N at_ K m p):=rfl
end Go.Proofs.YtdilpodccjlkgaaGreatDoor
namespace Go.Proofs.YtdilpodccjlkgaaGreatDoor
open Go.Proofs.Tryz
open Go.Proofs
variable {E:World}
set_option maxRecDepth 20000
theorem zB {S:Int→List Int} {V nr al:List Int} {n K i j:Nat} {T T':TypeId} (hV:pU S (gi al) V) (hN:ie S (gi al) V (gi nr)) (hK:∀a b,a∈V→b∈V→gi al a+gi al b<K) (hK0:0<K) (hnl:nr.length=n) (hal:al.length=n) (hlt:∀b∈V,b<n) {a b:Int} (ha:gi nr a≠-1) (hb:gi nr b≠-1) :
  aR prog E 99 [.agg [.own i n,.own j n],.int .i64 a,.int .i64 b] [(j,.grow 1 T' (cI al)),(i,.grow 1 T (cI nr))]
   fun r O=>r=.int .i64 (dR (gi nr) (gi al) K a b)∧O=[(j,.grow 1 T' (cI al)),(i,.grow 1 T (cI nr))]:=by
 have hget:∀x,gi nr x≠-1→0≤x∧x.toNat<n:=fun x hx=>by
  have hm:=hN.mem x hx
  have:=hV.nn x hm
  have:=hlt x hm
  omega
 have hNl:∀x,gi nr x≠-1→nr[x.toNat]?=some (gi nr x):=fun x hx=>fN (hget x hx).1 (by rw[hnl];exact (hget x hx).2)
 have hAl:∀x,gi nr x≠-1→al[x.toNat]?=some (gi al x):=fun x hx=>fN (hget x hx).1 (by rw[hal];exact (hget x hx).2)
 have hpos:∀x,gi nr x≠-1→0≤gi al x:=fun x hx=>(hV.pos x).1 (hN.mem x hx)
 refine zq func99 U (by decide) U<|ae<|yk (cs:=_) U U U U<|fun i3=>ap U<|z6<|zd<|zj<|y8 (γ:=Int × Int) [3] (fun g=>[(1,.int .i64 g.1),(2,.int .i64 g.2)]) (fun g=>[(i3,.cells 167 [.own i n,.own j n]),(j,.grow 1 T' (cI al)),(i,.grow 1 T (cI nr))]) (fun g=>gi nr g.1≠-1∧gi nr g.2≠-1∧dR (gi nr) (gi al) K g.1 g.2=dR (gi nr) (gi al) K a b) (fun g=>(gi al g.1+gi al g.2).toNat) (a,b) cV aD (⟨ha,hb,U⟩) ?_
 rintro ⟨x,y⟩ ⟨hx,hy,hm⟩
 try dsimp only at *
 refine zd<|ae<|aa U<|aa U<|aM U U<|z6<|zy U (fun cxy=>?_) (fun cxy=>?_)
 ·have hxy:x≠y:=by simpa using cxy
  refine zg<|zj<|zd<|zj<|y8 (γ:=Int) [2,3] (fun u=>[(1,.int .i64 u)]) (fun u=>[(i3,.cells 167 [.own i n,.own j n]),(j,.grow 1 T' (cI al)),(i,.grow 1 T (cI nr))]) (fun u=>gi nr u≠-1∧dR (gi nr) (gi al) K u y=dR (gi nr) (gi al) K a b∧(u=x∨gi al u<gi al x)) (fun u=>(gi al u).toNat) x aH aD (⟨hx,hm,.inl U⟩) ?_
  rintro u ⟨hu,hmu,hux⟩
  refine zd<|zd<|zw (fun j=>false) (by kernel_rfl) U (zh (.r (.r (.r (.rest _)))))<|ak 0 U (zn Zq U j8 (by decide) U U)<|ak 1 U (zt (c:=.own _ _) j9 U ⟨_,.head⟩ U)<|ak 2 U (dq U)<|ak 3 U (yp (j:=u.toNat) wz j6 U U (by have:=hget u hu;omega) ⟨_,.t1⟩ (by first|rfl|(simp[aQ,aW];done)|(simp[aQ,aW];omega)) (hget u hu).2)<|ak 4 U (q3 (j:=u.toNat) j7 U ⟨_,.t1⟩ (hAl u hu))<|ak 5 U (zn Zq U j8 (by decide) U U)<|ak 6 U (zt (c:=.own _ _) j9 U ⟨_,.head⟩ U)<|ak 7 U (dq U)<|ak 8 U (yp (j:=y.toNat) wz j6 U U (by have:=hget y hy;omega) ⟨_,.t1⟩ (by first|rfl|(simp[aQ,aW];done)|(simp[aQ,aW];omega)) (hget y hy).2)<|ak 9 U (q3 (j:=y.toNat) j7 U ⟨_,.t1⟩ (hAl y hy))<|ak 10 U (Gv.gtr U U)<|bY<|zy U (fun c1=>?_) (fun c1=>?_)
  ·have c1:gi al y<gi al u:=by simpa using c1
   obtain ⟨h1,h2,h3,h4⟩:=yW hV hN hK hu hy c1
   have hp:=hpos u hu
   have hp':=hpos _ h2
   refine zg<|zj<|aO<|za (zn Zq U j8 (by decide) U U)<|za (zt (c:=.own _ _) j9 U ⟨_,.head⟩ U)<|aa U<|za (yp (j:=u.toNat) wz j6 U U (by have:=hget u hu;omega) ⟨_,.t2⟩ (by first|rfl|(simp[aQ,aW];done)|(simp[aQ,aW];omega)) (hget u hu).2)<|za (q3 (j:=u.toNat) j7 U ⟨_,.t2⟩ (hNl u hu))<|ap U<|z6 ?_
   exact ⟨gi nr u,cV,aH,aD,⟨h2,by rw[←h4];exact hmu,.inr (by rcases hux with rfl|h<;>omega)⟩,by omega⟩
  ·have c1:¬gi al y<gi al u:=by simpa using c1
   refine y7<|zj<|y8 (γ:=Int) [1,3] (fun z=>[(2,.int .i64 z)]) (fun z=>[(i3,.cells 167 [.own i n,.own j n]),(j,.grow 1 T' (cI al)),(i,.grow 1 T (cI nr))]) (fun z=>gi nr z≠-1∧dR (gi nr) (gi al) K u z=dR (gi nr) (gi al) K a b∧(z=y∨gi al z<gi al y)) (fun z=>(gi al z).toNat) y aH aD (⟨hy,hmu,.inl U⟩) ?_
   rintro z ⟨hz,hmz,hzy⟩
   refine zd<|zd<|zw (fun j=>false) (by kernel_rfl) U (zh (.r (.r (.r (.rest _)))))<|ak 0 U (zn Zq U j8 (by decide) U U)<|ak 1 U (zt (c:=.own _ _) j9 U ⟨_,.head⟩ U)<|ak 2 U (dq U)<|ak 3 U (yp (j:=z.toNat) wz j6 U U (by have:=hget z hz;omega) ⟨_,.t1⟩ (by first|rfl|(simp[aQ,aW];done)|(simp[aQ,aW];omega)) (hget z hz).2)<|ak 4 U (q3 (j:=z.toNat) j7 U ⟨_,.t1⟩ (hAl z hz))<|ak 5 U (zn Zq U j8 (by decide) U U)<|ak 6 U (zt (c:=.own _ _) j9 U ⟨_,.head⟩ U)<|ak 7 U (dq U)<|ak 8 U (yp (j:=u.toNat) wz j6 U U (by have:=hget u hu;omega) ⟨_,.t1⟩ (by first|rfl|(simp[aQ,aW];done)|(simp[aQ,aW];omega)) (hget u hu).2)<|ak 9 U (q3 (j:=u.toNat) j7 U ⟨_,.t1⟩ (hAl u hu))<|ak 10 U (Gv.gtr U U)<|bY<|zy U (fun c2=>?_) (fun c2=>?_)
   ·have c2:gi al u<gi al z:=by simpa using c2
    obtain ⟨h1,h2,h3,h4⟩:=vQ hV hN hK hu hz c2
    have hp:=hpos z hz
    have hp':=hpos _ h2
    refine zg<|zj<|aO<|za (zn Zq U j8 (by decide) U U)<|za (zt (c:=.own _ _) j9 U ⟨_,.head⟩ U)<|aa U<|za (yp (j:=z.toNat) wz j6 U U (by have:=hget z hz;omega) ⟨_,.t2⟩ (by first|rfl|(simp[aQ,aW];done)|(simp[aQ,aW];omega)) (hget z hz).2)<|za (q3 (j:=z.toNat) j7 U ⟨_,.t2⟩ (hNl z hz))<|ap U<|z6 ?_
    exact ⟨gi nr z,cV,aH,aD,⟨h2,by rw[←h4];exact hmz,.inr (by rcases hzy with rfl|h<;>omega)⟩,by omega⟩
   ·have c2:¬gi al u<gi al z:=by simpa using c2
    have hp1:=hpos x hx
    have hp2:=hpos y hy
    have hp3:=hpos u hu
    have hp4:=hpos z hz
    have hin:gi al x=gi al y→x=y:=fun e=>hV.inj x y (hN.mem x hx) (hN.mem y hy) e
    refine y7 ?_
    exact ⟨(u,z),aH,cV,aD,⟨hu,hz,hmz⟩,by dsimp only;rcases hux with rfl|hux<;>rcases hzy with rfl|hzy<;>omega⟩
 ·have hxy:x=y:=by simpa using cxy
  subst hxy
  rw[yX hK0] at hm
  refine y7<|ae<|aa U<|ap U<|z6<|y3 (aX.drop .head)<|zi<|zm (x:=.int _ _) U ?_
  exact ⟨by rw[hm],rfl⟩
end Go.Proofs.YtdilpodccjlkgaaGreatDoor
namespace Go.Proofs.YtdilpodccjlkgaaGreatDoor
open Go.Proofs.Tryz
open Go.Proofs
theorem F6:cX prog 167 #[(0,1),(1,1)] [.raw (.slice none 0 0),.raw (.slice none 0 0)]:=⟨_,_,Zq,zeroValue167,fun w=>by kernel_rfl,rfl⟩
variable {E:World}
set_option maxRecDepth 20000
theorem sw (f:ad) (hE:bV f) (hn:f.blocks.length≤1000):aR prog E 59 [.fro 1 ((aA (ah f) f.blocks.length).map cW),lg eI (cS f f.blocks.length),.int .i64 f.blocks.length] []
  fun x O'=>∃i:Nat,x=.own i f.blocks.length∧O'=[(i,.grow 1 3 (cI (bi (ah f) f.blocks.length)))]:=by
 have hG:=hE.grph
 have hk:=hG.gok
 have hpos:=hG.npos
 have hol:=fg hG
 obtain ⟨n,hnn⟩:∃n,f.blocks.length=n:=⟨_,rfl⟩
 obtain ⟨S,hS⟩:∃S,ah f=S:=⟨_,rfl⟩
 have hrow:∀k,k<n→(cS f n)[k]?=some (bd S n (k:Int)):=fun k h=>by rw[←hnn,←hS];exact iZ f (by omega)
 rw[hnn] at hk hG hpos hol hn ⊢
 rw[hS] at hk hG hol ⊢
 obtain ⟨V,hVe⟩:∃V,aA S n=V:=⟨_,rfl⟩
 have hNG:rl (dT n V) V (bd S n) n=bl S n:=by rw[←hVe];rfl
 rw[hVe] at hk hol ⊢
 have hVp:=hk.pos
 have hK:=hk.K
 have hdl:(V.drop 1).length+1=V.length:=by simp;omega
 refine zq func59 U (by decide) U<|ae<|bF U<|z6<|ae<|y4 (rows:=[[_]]) cC U U U U U<|aa U<|zr U (zh (.rest _)) (aN (-1) n (by omega) hpos) ?_
 rintro r18 O18 ⟨i18,rfl,rfl⟩
 refine y4 (rows:=[[_]]) cC U U U U U<|aa U<|zr U (zh (.r (.rest _))) (aN (-1) n (by omega) hpos) ?_
 rintro r21 O21 ⟨i21,rfl,rfl⟩
 refine za (y5 (cps:=[(0,[_]),(1,[_])]) (rs:=[_,_]) F6 U U U)<|y6 (cs:=[.raw (.slice none 0 0),.raw (.slice none 0 0)]) zeroValue167 U U<|fun i7=>y1 sizeOf167 U U U U U U .head U<|z6<|zd<|ae<|aT U<|ar wz U<|aa U<|z6<|zj<|y8 (γ:=Nat) [0,1,7,23,24] (fun k=>[(25,.int .i64 k)]) (fun k=>[(i7,.cells 167 [.own i18 n,.own i21 n]),(i21,.grow 1 3 (cI (uj n V k))),(i18,.grow 1 3 (cI (List.replicate n (-1))))]) (fun k=>k≤V.length) (fun k=>V.length - k) 0 aH aD (qn _) ?_
 rintro k hkl
 refine ae<|ax U U<|z6<|zd<|zu U (fun ck=>?_) (fun ck=>?_)
 ·have hk2:k<V.length:=by simp at ck;omega
  have hb:=hk.lt _ (qo hk2)
  have hb0:=hk.ord.nn _ (qo hk2)
  refine zg<|zd<|zj<|ae<|aa U<|za (bh k wz j6 U U U (qk hk2))<|ay j7 U<|ap U<|ap U<|z6<|aO<|za (zn Zq U j8 (by decide) U U)<|za (zt (c:=.own _ _) j9 U ⟨_,.head⟩ U)<|aa U<|aa U<|za (yp (j:=V[k].toNat) wz j6 U U (by omega) ⟨_,.t1⟩ (by rw[aQ,pa]) (by omega))<|q6 (j:=V[k].toNat) j6 U U .t1 (by rw[pa];omega)<|z6<|aO<|aC U U<|aa U<|z6 ?_
  exact ⟨k+1,iO,aH,⟨_,(.refl _),by rw[yY hk2]⟩,hk2,by omega⟩
 ·have hkn:k=V.length:=by simp at ck;omega
  subst hkn
  rw[uk]
  have hatl:(dT n V).length=n:=by rw[←uk];exact pa n V _
  have hatg:∀x:Int,0≤x→x<n→(dT n V)[x.toNat]?=some (gi (dT n V) x):=fun x h1 h2=>fN h1 (by omega)
  refine y7<|ae<|za (zn Zq U j8 (by decide) U U)<|za (zt (c:=.own _ _) j9 U ⟨_,.head⟩ U)<|za (yp (j:=0) wz j6 U U U ⟨_,.t2⟩ (by first|rfl|(simp[aQ,aW];done)|(simp[aQ,aW];omega)) (by omega))<|q6 (j:=0) j6 U U .t2 (by first|omega|(simp;omega))<|z6<|zd<|ae<|ab U<|z6<|zj<|y8 (γ:=Nat × Bool × List Int) [0,1,7] (fun g=>[(10,.bool g.2.1)]) (fun g=>[(i7,.cells 167 [.own i18 n,.own i21 n]),(i21,.grow 1 3 (cI (dT n V))),(i18,.grow 1 3 (cI g.2.2))]) (fun g=>l9 S (gi (dT n V)) V (gi g.2.2) g.1 1∧g.2.2.length=n∧(g.2.1=true→g.1≤V.length)∧(g.2.1=false→g.2.2=bl S n)) (fun g=>(if g.2.1=true then V.length+1 - g.1 else 0)) (0,true,e8 n) aH aD (⟨hk.begin,lC n,fun _=>qn _,fun h=>by cases h⟩) ?_
  rintro ⟨j,again,l⟩ ⟨hR,hl,hj,hfin⟩
  try dsimp only at *
  refine zd<|ae<|aj U<|z6<|zy U (fun ca=>?_) (fun ca=>?_)
  ·have ca:again=true:=by simpa using ca
   subst ca
   have hj:=hj rfl
   refine zg<|zj<|ae<|ab U<|z6<|ae<|aT U<|za (Gv.cutLoM (j:=1) wz j6 U U U (by omega))<|ar wz U<|aa U<|z6<|zj<|y8 (γ:=Nat × Bool × List Int) [0,1,7,41,42] (fun g=>[(43,.int .i64 g.1),(10,.bool g.2.1)]) (fun g=>[(i7,.cells 167 [.own i18 n,.own i21 n]),(i21,.grow 1 3 (cI (dT n V))),(i18,.grow 1 3 (cI g.2.2))]) (fun g=>g.1≤(V.drop 1).length∧g.2.2=pb (dT n V) (2*V.length) (bd S n) V l g.1∧l9 S (gi (dT n V)) V (gi g.2.2) j ((g.1+1:Nat):Int)∧(g.2.1=true→j<V.length)∧(g.2.1=false→g.2.2=l)) (fun g=>(V.drop 1).length - g.1) (0,false,l) cV aD (⟨qn _,U,hR,fun h=>(by cases h),fun _=>U⟩) ?_
   rintro ⟨q,ag,l'⟩ ⟨hq,hl',hR',hag,hsame⟩
   try dsimp only at *
   have hl'n:l'.length=n:=by rw[hl',zA,hl]
   refine ae<|ax U U<|z6<|zd<|zu U (fun cq=>?_) (fun cq=>?_)
   ·have hq2:q<(V.drop 1).length:=by simpa using cq
    obtain ⟨b,hb⟩:∃b,(V.drop 1)[q]=b:=⟨_,rfl⟩
    have hbV:V[q+1]?=some b:=by rw[←hb,List.getElem_drop,Nat.add_comm];exact qk (by simp at hq2;omega)
    obtain ⟨hs1,hs2,hs3,hbm,hb0⟩:=hk.step hl'n (Nat.succ_pos q) hbV hR'
    have hblt:=hk.lt b hbm
    have hbnn:=hk.ord.nn b hbm
    have hpr:∀p∈bd S n b,0≤p∧p<n:=fun p hp=>rA hG hp
    have hsucc:=vR (at_:=dT n V) (K:=2*V.length) (preds:=bd S n) (l:=l) hq2
    rw[hb,←hl'] at hsucc
    have hgl:∀x:Int,0≤x→x<n→l'[x.toNat]?=some (gi l' x):=fun x h1 h2=>fN h1 (by omega)
    have hrb:(cS f n)[b.toNat]?=some (bd S n b):=by
     have:=hrow b.toNat (by omega)
     rwa [show ((b.toNat:Nat):Int)=b by omega] at this
    obtain ⟨ps,hps⟩:∃ps,bd S n b=ps:=⟨_,rfl⟩
    have hpsl:ps.length≤2*n:=by rw[←hps,←hS];exact gI f b n
    rw[hps] at hpr hrb
    refine zg<|zd<|zj<|ae<|za (bh q wz j6 U U U (by rw[qk hq2,hb])) ?_
    refine ay j7 U<|ap U<|z6<|ae<|ap U<|z6<|zd<|ae<|aT U<|aa U<|za (bh b.toNat ji j8 U U (by omega) hrb)<|aI j9 U<|ar wz U<|aa U<|z6<|zj<|y8 (γ:=Nat × Int) [0,1,7,10,12,41,42,43,50,51] (fun g=>[(52,.int .i64 g.1),(13,.int .i64 g.2)]) (fun g=>[(i7,.cells 167 [.own i18 n,.own i21 n]),(i21,.grow 1 3 (cI (dT n V))),(i18,.grow 1 3 (cI l'))]) (fun g=>g.1≤ps.length∧fI (gi l') (gi (dT n V)) (2*V.length) (ps.drop g.1) g.2=fI (gi l') (gi (dT n V)) (2*V.length) ps (-1)∧(g.2=-1∨gi l' g.2≠-1)) (fun g=>ps.length - g.1) (0,-1) cV aD (⟨qn _,U,.inl U⟩) ?_
    rintro ⟨m,best⟩ ⟨hm,hbst,hbn⟩
    try dsimp only at *
    refine ae<|ax U U<|z6<|zd<|zu U (fun cm=>?_) (fun cm=>?_)
    ·have hm2:m<ps.length:=by simp at cm;omega
     obtain ⟨p,hp⟩:∃p,ps[m]=p:=⟨_,rfl⟩
     obtain ⟨hp0,hpn⟩:=hpr p (hp▸qo hm2)
     have hbst:fI (gi l') (gi (dT n V)) (2*V.length) (ps.drop (m+1)) (if gi (dT n V) p=-1∨gi l' p=-1 then best else if best=-1 then p else dR (gi l') (gi (dT n V)) (2*V.length) best p)=fI (gi l') (gi (dT n V)) (2*V.length) ps (-1):=by
      rw[←hbst,List.drop_eq_getElem_cons hm2,vS,hp]
     refine zg<|zd<|zj<|ae<|za (bh m wz j6 U U U (by rw[qk hm2,hp])) ?_
     refine ay j7 U<|ap U<|z6<|zj<|ae<|za (zn Zq U j8 (by decide) U U)<|za (zt (c:=.own _ _) j9 U ⟨_,.head⟩ U)<|aa U<|za (yp (j:=p.toNat) wz j6 U U (by omega) ⟨_,.t1⟩ (by first|rfl|(simp[aQ,aW];done)|(simp[aQ,aW];omega)) (by omega))<|za (q3 (j:=p.toNat) j7 U ⟨_,.t1⟩ (hatg p hp0 hpn))<|ai U U<|aj U<|zo (s:=67) U (fun c1=>?_) (fun c1=>?_)
     ·have d1:gi (dT n V) p=-1:=by simpa using c1
      rw[if_pos (.inl d1)] at hbst
      refine z7 U U c1<|z7 U U c1<|z7 U U c1<|z7 U U c1<|z7 U U c1<|z7 U U c1<|aq U c1 U<|ab U<|z6<|yl U U<|zg<|aO<|aC U U<|aa U<|z6 ?_
      exact ⟨(m+1,best),nv,cV,aD,⟨hm2,hbst,hbn⟩,by dsimp only;omega⟩
     ·have d1:¬gi (dT n V) p=-1:=by simpa using c1
      refine z8 U U c1<|za (zn Zq U j8 (by decide) U U)<|z8 U U c1<|za (zt (c:=.own _ _) j9 U ⟨_,.head⟩ U)<|z8 U U c1<|aa U<|z8 U U c1<|za (yp (j:=p.toNat) wz j6 U U (by omega) ⟨_,.t2⟩ (by first|rfl|(simp[aQ,aW];done)|(simp[aQ,aW];omega)) (by omega))<|z8 U U c1<|za (q3 (j:=p.toNat) j7 U ⟨_,.t2⟩ (hgl p hp0 hpn))<|z8 U U c1<|ai U U<|au U c1 U<|ab U<|z6<|zy U (fun c2=>?_) (fun c2=>?_)
      ·have d2:gi l' p=-1:=by simpa using c2
       rw[if_pos (.inr d2)] at hbst
       refine zg<|aO<|aC U U<|aa U<|z6 ?_
       exact ⟨(m+1,best),nv,cV,aD,⟨hm2,hbst,hbn⟩,by dsimp only;omega⟩
      ·have d2:¬gi l' p=-1:=by simpa using c2
       rw[if_neg (by rintro (h|h);exact d1 h;exact d2 h)] at hbst
       refine ae<|aa U<|ai U U<|ab U<|z6<|zy U (fun c3=>?_) (fun c3=>?_)
       ·have c3:best=-1:=by simpa using c3
        rw[if_pos c3] at hbst
        refine aO<|aa U<|ap U<|z6<|aO<|aC U U<|aa U<|z6 ?_
        exact ⟨(m+1,p),nv,cV,aD,⟨hm2,hbst,.inr d2⟩,by dsimp only;omega⟩
       ·have c3:¬best=-1:=by simpa using c3
        rw[if_neg c3] at hbst
        have hbb:gi l' best≠-1:=by rcases hbn with h|h;exact absurd h c3;exact h
        refine aO<|za (Gv.loadWC isAgg167 sizeOf167 U ⟨_,.head⟩ U)<|aa U<|aa U<|zr U (zh (.r (.l (.l (.rest _))))) (zB hk.ord hR'.inv hK (by omega) hl'n hatl hk.lt hbb d2) ?_
        rintro r59 O59 ⟨rfl,rfl⟩
        refine ap U<|z6<|y3 (zb (zc .t2))<|aO<|aC U U<|aa U<|z6 ?_
        exact ⟨(m+1,dR (gi l') (gi (dT n V)) (2*V.length) best p),nv,cV,aD,⟨hm2,hbst,.inr (l8 hk.ord hR'.inv _ best p hbb d2 (hK best p (hR'.inv.mem _ hbb) (hR'.inv.mem _ d2))).1⟩,by dsimp only;omega⟩
    ·have hmn:m=ps.length:=by simp at cm;omega
     subst hmn
     rw[List.drop_length] at hbst
     have hbst:best=fI (gi l') (gi (dT n V)) (2*V.length) ps (-1):=hbst
     have hst:iB (dT n V) (2*V.length) (bd S n) l' b=l'.set b.toNat best:=by unfold iB;rw[hps,←hbst]
     rw[hst] at hs1 hs2 hsucc
     refine y7<|ae<|za (zn Zq U j8 (by decide) U U)<|za (zt (c:=.own _ _) j9 U ⟨_,.head⟩ U)<|aa U<|za (yp (j:=b.toNat) wz j6 U U (by omega) ⟨_,.t2⟩ (by first|rfl|(simp[aQ,aW];done)|(simp[aQ,aW];omega)) (by omega))<|za (q3 (j:=b.toNat) j7 U ⟨_,.t2⟩ (hgl b hbnn hblt))<|aa U<|aM U U<|z6<|zy U (fun ce=>?_) (fun ce=>?_)
     ·have ce:¬gi l' b=best:=by simpa using ce
      have hjl:j<V.length:=Classical.byContradiction fun h=>ce (by
       have h2:=hs2 (by omega)
       have h3:=sf (l:=l') hbnn (by omega) best
       rw[h2] at h3
       have h4:=congrFun h3 b
       simpa [ig] using h4)
      refine aO<|za (zn Zq U j8 (by decide) U U)<|za (zt (c:=.own _ _) j9 U ⟨_,.head⟩ U)<|aa U<|aa U<|za (yp (j:=b.toNat) wz j6 U U (by omega) ⟨_,.t2⟩ (by first|rfl|(simp[aQ,aW];done)|(simp[aQ,aW];omega)) (by omega))<|q6 (j:=b.toNat) j6 U U .t2 (by first|omega|(simp;omega))<|ab U<|z6<|aO<|aC U U<|aa U<|z6 ?_
      exact ⟨(q+1,true,l'.set b.toNat best),iO,cV,aD,⟨hq2,hsucc.symm,hs1,fun _=>hjl,fun h=>by cases h⟩,by dsimp only;omega⟩
     ·have ce:gi l' b=best:=by simpa using ce
      rw[←ce,tG hbnn] at hs1 hsucc
      refine zg<|aO<|aC U U<|aa U<|z6 ?_
      exact ⟨(q+1,ag,l'),iO,cV,aD,⟨hq2,hsucc.symm,hs1,hag,hsame⟩,by dsimp only;omega⟩
   ·have hqn:q=(V.drop 1).length:=by have h0:¬(q:Int)<((V.drop 1).length:Int):=(by simpa using cq);omega
    subst hqn
    rw[yZ] at hl'
    have hR2:l9 S (gi (dT n V)) V (gi l') (j+1) 1:=by rw[hl'];exact hk.pass hl hR
    refine y7 ?_
    exact ⟨(j+1,ag,l'),de,aH,aD,⟨hR2,hl'n,fun h=>by have:=hag h;omega,fun h=>by have e:=hsame h;rw[e] at hl';have:=hk.near_eq hl (hk.fixed hl hR hl'.symm);rw[e,this,hNG]⟩,by dsimp only;rw[if_pos rfl];split<;>omega⟩
  ·have ca:again=false:=by simpa using ca
   have hfin:=hfin ca
   subst hfin
   refine y7<|ae<|za (zn Zq U j8 (by decide) U U)<|za (zt (c:=.own _ _) j9 U ⟨_,.head⟩ U)<|za (yp (j:=0) wz j6 U U U ⟨_,.t2⟩ (by rw[aQ,kT]) (by omega))<|q6 (j:=0) j6 U U .t2 (by rw[kT];omega)<|z6<|ae<|za (zn Zq U j8 (by decide) U U)<|za (zt (c:=.own _ _) j9 U ⟨_,.head⟩ U)<|za (gZ U)<|z6<|y3 (aX.drop .head)<|y3 (aX.drop .head)<|zi<|zm (x:=.own _ _) U ?_
   exact ⟨i18,rfl,rfl⟩
end Go.Proofs.YtdilpodccjlkgaaGreatDoor
namespace Go.Proofs.YtdilpodccjlkgaaGreatDoor
open Go.Proofs.Tryz
open Go.Proofs
variable {E:World}
set_option maxRecDepth 20000
theorem ul (xs:List Int) (v:Int) (i:Nat) (T:TypeId) (hl:xs.length≤281474976710656):aR prog E 136 [.own i xs.length,.int .i64 v] [(i,.grow 1 T (cI xs))] fun r O=>r=.int .i64 (cK (fun x=>decide (v=x)) xs 0)∧O=[(i,.grow 1 T (cI xs))]:=by
 refine zq func136 U (by decide) U<|ae<|ap U<|z6<|zd<|ae<|bz U<|za (Gv.lenO wz U)<|aa U<|z6<|zj<|y8 (γ:=Nat) [0,1,7] (fun k=>[(8,.int .i64 k)]) (fun k=>[(i,.grow 1 T (cI xs))]) (fun k=>k≤xs.length∧(xs.take k).all (fun x=>!decide (v=x))) (fun k=>xs.length - k) 0 aH aD (⟨qn _,U⟩) ?_
 rintro k ⟨hk,hall⟩
 refine ae<|ax U U<|z6<|zd<|zu U (fun ck=>?_) (fun ck=>?_)
 ·have hk2:k<xs.length:=by simp at ck;omega
  refine zg<|zd<|zj<|ae<|aa U<|ap U<|z6<|ae<|aa U<|bz U<|aa U<|za (yp (j:=k) wz j6 U U U ⟨_,.head⟩ (by first|rfl|(simp[aQ,aW];done)|(simp[aQ,aW];omega)) hk2)<|za (q3 (j:=k) j7 U ⟨_,.head⟩ (qk hk2))<|ai U U<|z6<|zy U (fun cp=>?_) (fun cp=>?_)
  ·refine ae<|aa U<|ap U<|z6<|zi<|zm (x:=.int _ _) U ?_
   exact ⟨by rw[bK _ xs k hk hall,List.drop_eq_getElem_cons hk2,cK,if_pos (by simpa using cp)],rfl⟩
  ·refine zg<|aO<|aC U U<|aa U<|z6 ?_
   exact ⟨k+1,de,aH,aD,⟨hk2,by rw[ql hk2,List.all_append,hall];simpa using cp⟩,by omega⟩
 ·have hkn:k=xs.length:=by simp at ck;omega
  refine y7<|ae<|ap U<|z6<|zi<|zm (x:=.int _ _) U ?_
  exact ⟨by rw[bK _ xs k hk hall,hkn,List.drop_length,cK],rfl⟩
theorem pd (xs:List Int) (v:Int) (i:Nat) (T:TypeId) (hl:xs.length≤281474976710656):aR prog E 101 [.own i xs.length,.int .i64 v] [(i,.grow 1 T (cI xs))] fun r O=>r=.bool (xs.contains v)∧O=[(i,.grow 1 T (cI xs))]:=by
 refine zq func101 U (by decide) U<|ae<|ab U<|z6<|ae<|bz U<|aa U<|zr U (zh (.l (.rest _))) (ul xs v i T hl) ?_
 rintro r7 O7 ⟨rfl,rfl⟩
 refine za (yy U U)<|ab U<|z6<|zi<|zm (x:=.bool _) U ?_
 exact ⟨by rw[eK];congr 1;rw[qt];simp,rfl⟩
theorem pe (xs:List Int) (v:Int) (i:Nat) (T:TypeId) (hl:xs.length≤281474976710656):aR prog E 101 [.own i xs.length,.int .i64 v] [(i,.grow eI.k T (eI.av xs))] fun r O=>r=.bool (xs.contains v)∧O=[(i,.grow eI.k T (eI.av xs))]:=by rw[AG];exact pd xs v i T hl
theorem zC (l:List Int) (i:Nat) (T:TypeId) (hl:l.length≤200000):aR prog E 102 [.own i l.length] [(i,.grow eI.k T (eI.av l))] fun r O=>r=.tup []∧O=[(i,.grow eI.k T (eI.av (jQ l)))]:=by rw[AG,AG];exact tO l i T hl
def tb (n:Nat) (rows:List (List Int)):Prop:=rows.length=n∧∀r∈rows,r.Nodup∧∀x∈r,0≤x∧x<n
theorem tb.len {n:Nat} {rows:List (List Int)} (h:tb n rows) {r:List Int} (hr:r∈rows):r.length≤n:=by
 have:=kU r (aU n) (h.2 r hr).1 fun x hx=>cM.2 ((h.2 r hr).2 x hx)
 rwa [bA] at this
theorem tb.push {n:Nat} {rows:List (List Int)} (h:tb n rows) {j:Nat} (hj:j<rows.length) {b:Int} (h0:0≤b) (hb:b<n) (hn:b ∉ rows[j]):tb n (rows.set j (rows[j]++[b])):=by
 refine ⟨by rw[List.length_set];exact h.1,fun r hr=>?_⟩
 rcases List.mem_or_eq_of_mem_set hr with hr|rfl
 ·exact h.2 r hr
 ·obtain ⟨g1,g2⟩:=h.2 _ (qo hj)
  refine ⟨List.nodup_append.2 ⟨g1,by simp,fun x hx y hy e=>?_⟩,fun x hx=>?_⟩
  ·simp at hy;subst hy;subst e;exact hn hx
  ·rcases List.mem_append.1 hx with hx|hx
   ·exact g2 x hx
   ·simp at hx;subst hx;exact ⟨h0,hb⟩
theorem tb.sort {n:Nat} {rows:List (List Int)} (h:tb n rows) {j:Nat} (hj:j<rows.length):tb n (rows.set j (jQ rows[j])):=by
 refine ⟨by rw[List.length_set];exact h.1,fun r hr=>?_⟩
 rcases List.mem_or_eq_of_mem_set hr with hr|rfl
 ·exact h.2 r hr
 ·obtain ⟨g1,g2⟩:=h.2 _ (qo hj)
  exact ⟨(eB _).nodup_iff.2 g1,fun x hx=>g2 x ((eB _).mem_iff.1 hx)⟩
theorem tb.begin (n:Nat):tb n (List.replicate n []):=⟨by simp,fun r hr=>by rw[List.eq_of_mem_replicate hr];exact ⟨by simp,fun x hx=>by cases hx⟩⟩
section
variable {S:Int→List Int} {n:Nat} (hG:eV S n)
include hG
theorem um {c p:Int} (hc:c∈aA S n) (hp:p∈aA S n) (he:c∈S p):c=0∨f9 (gi (bl S n)) p (gi (bl S n) c):=by
 by_cases h0:c=0
 ·exact .inl h0
 ·right
  have hX:=hG.exact
  have hO:=hG.gok.ord
  have hb:=hX.has c hc
  obtain ⟨g1,g2,g3⟩:=hX.inv.near c h0 hb
  have hd:gF S (gi (bl S n) c) c:=(hX.anc c _ hc).1 (.up h0 hb (.refl _))
  exact (hX.anc p _ hp).2 (hd.pred ((hO.mem p).1 hp) he (fun e=>by rw[e] at g3;omega))
theorem vT {c y:Int} (hc:c∈aA S n) (hy:(y∈aA S n∧(c=0∨f9 (gi (bl S n)) y (gi (bl S n) c)))∨(c=0∧y=-1)) (hne:y≠gi (bi S n) c) :
  y∈aA S n∧((gi (bi S n) y∈aA S n∧(c=0∨f9 (gi (bl S n)) (gi (bi S n) y) (gi (bl S n) c)))∨(c=0∧gi (bi S n) y=-1))∧0<(gi (bT S n) y+1).toNat∧(gi (bT S n) (gi (bi S n) y)+1).toNat<(gi (bT S n) y+1).toNat:=by
 have hO:=hG.gok.ord
 have hpos:=hG.npos
 have hyV:y∈aA S n:=by
  rcases hy with h|⟨h1,h2⟩
  ·exact h.1
  ·exact absurd (by rw[h2,h1,nS hpos]) hne
 have hl:=hG.lev_nn hyV
 have hy0:=hO.nn y hyV
 refine ⟨hyV,?_⟩
 by_cases h0:y=0
 ·subst h0
  rw[nS hpos]
  have hc0:c=0:=by
   rcases hy with ⟨_,h|h⟩|h
   ·exact h
   ·rcases h.cases' with e|⟨e,_⟩
    ·by_cases hc0:c=0
     ·exact hc0
     ·have:=hO.nn c hc
      exact absurd (by rw[ei this hc0,←e]) hne
    ·exact absurd rfl e
   ·exact h.1
  have hm:gi (bT S n) (-1)=-1:=vz (.inl (by omega))
  exact ⟨.inr ⟨hc0,rfl⟩,by omega,by rw[hm];omega⟩
 ·rw[ei hy0 h0]
  obtain ⟨g1,g2⟩:=hG.near_mem hyV h0
  have g3:=hG.lev_near hyV h0
  have g4:=hG.lev_nn g1
  refine ⟨.inl ⟨g1,?_⟩,by omega,by omega⟩
  rcases hy with ⟨_,h|h⟩|h
  ·exact .inl h
  ·rcases h.cases' with e|⟨_,_,h3⟩
   ·by_cases hc0:c=0
    ·exact .inl hc0
    ·have:=hO.nn c hc
     exact absurd (by rw[ei this hc0,e]) hne
   ·exact .inr h3
  ·exact .inl h.1
end
theorem un (f:ad) (hE:bV f) (hn:f.blocks.length≤1000) (t a b fb:Nat) (T:TypeId) (x:AV) (rows:List (List Int)) (hF:tb f.blocks.length rows) :
  aR prog E 61 [.po t 0,.fro 1 ((aA (ah f) f.blocks.length).map cW),lg eI (cS f f.blocks.length)]
   [(0,du eI 23 3 fb rows),(t,.cells 130 [.own a f.blocks.length,.own b f.blocks.length,x,eb fb f.blocks.length]),(b,.grow 1 3 (cI (bT (ah f) f.blocks.length))),(a,.grow 1 3 (cI (bi (ah f) f.blocks.length)))]
   fun r O=>r=.tup []∧∃rows',tb f.blocks.length rows'∧O=[(0,du eI 23 3 fb rows'),(t,.cells 130 [.own a f.blocks.length,.own b f.blocks.length,x,eb fb f.blocks.length]),(b,.grow 1 3 (cI (bT (ah f) f.blocks.length))),(a,.grow 1 3 (cI (bi (ah f) f.blocks.length)))]:=by
 have hG:=hE.grph
 have hpos:=hG.npos
 have hol:=fg hG
 have hrowP:∀k,k<f.blocks.length→(cS f f.blocks.length)[k]?=some (bd (ah f) f.blocks.length (k:Int)):=fun k h=>iZ f h
 have hpl:∀b,(bd (ah f) f.blocks.length b).length≤2*f.blocks.length:=fun b=>gI f b _
 obtain ⟨n,hnn⟩:∃n,f.blocks.length=n:=⟨_,rfl⟩
 obtain ⟨S,hS⟩:∃S,ah f=S:=⟨_,rfl⟩
 rw[hnn] at hG hpos hol hn hrowP hpl hF ⊢
 rw[hS] at hG hol hrowP hpl ⊢
 obtain ⟨V,hVe⟩:∃V,aA S n=V:=⟨_,rfl⟩
 have hVr:∀y∈V,0≤y∧y<n:=fun y hy=>b3 hG.toEOk (hVe▸hy)
 have hX:=hG.exact
 have hO:=hG.gok.ord
 have hlev:=hG.lev
 rw[hVe] at hX hO hol ⊢
 have hLl:(bT S n).length=n:=hlev.len
 have hRl:(bi S n).length=n:=fi S n
 have hLg:∀y:Int,0≤y→y<n→(bT S n)[y.toNat]?=some (gi (bT S n) y):=fun y h1 h2=>fN h1 (by omega)
 have hNg:∀y:Int,0≤y→y<n→(bi S n)[y.toNat]?=some (gi (bi S n) y):=fun y h1 h2=>fN h1 (by rw[fi];omega)
 refine zq func61 U (by decide) U<|zd<|ae<|aT U<|ar wz U<|aa U<|z6<|zj<|y8 (γ:=Nat × List (List Int)) [0,2,12,13] (fun g=>[(14,.int .i64 g.1)]) (fun g=>[(0,du eI 23 3 fb g.2),(t,.cells 130 [.own a n,.own b n,x,eb fb n]),(b,.grow 1 3 (cI (bT S n))),(a,.grow 1 3 (cI (bi S n)))]) (fun g=>g.1≤V.length∧tb n g.2) (fun g=>V.length - g.1) (0,rows) aH aD (⟨qn _,hF⟩) ?_
 rintro ⟨k,rows⟩ ⟨hk,hF⟩
 try dsimp only at *
 refine ae<|ax U U<|z6<|zd<|zu U (fun ck=>?_) (fun ck=>?_)
 ·have hk2:k<V.length:=by simp at ck;omega
  obtain ⟨c,hc⟩:∃c,V[k]=c:=⟨_,rfl⟩
  have hcV:c∈V:=hc▸qo hk2
  obtain ⟨hc0,hcn⟩:=hVr c hcV
  have hrow:(cS f n)[c.toNat]?=some (bd S n c):=by
   have:=hrowP c.toNat (by omega)
   rwa [show ((c.toNat:Nat):Int)=c by omega] at this
  have hpc:=hpl c
  have hpr:∀p∈bd S n c,0≤p∧p<n:=fun p hp=>rA hG hp
  have hpS:∀p∈bd S n c,c∈S p:=fun p hp=>(hG.gok.preds c (by rw[hVe];exact hcV) p).1 hp
  obtain ⟨ps,hps⟩:∃ps,bd S n c=ps:=⟨_,rfl⟩
  rw[hps] at hrow hpc hpr hpS
  refine zg<|zd<|zj<|ae<|za (bh k wz j6 U U U (by rw[qk hk2,hc])) ?_
  refine ay j7 U<|ap U<|z6<|ae<|aT U<|aa U<|za (bh c.toNat ji j8 U U (by omega) hrow)<|aI j9 U<|ar wz U<|aa U<|z6<|zj<|y8 (γ:=Nat × List (List Int)) [0,2,7,12,13,14,21,22] (fun g=>[(23,.int .i64 g.1)]) (fun g=>[(0,du eI 23 3 fb g.2),(t,.cells 130 [.own a n,.own b n,x,eb fb n]),(b,.grow 1 3 (cI (bT S n))),(a,.grow 1 3 (cI (bi S n)))]) (fun g=>g.1≤ps.length∧tb n g.2) (fun g=>ps.length - g.1) (0,rows) aH aD (⟨qn _,hF⟩) ?_
  rintro ⟨j,rows⟩ ⟨hj,hF⟩
  try dsimp only at *
  refine ae<|ax U U<|z6<|zd<|zu U (fun cj=>?_) (fun cj=>?_)
  ·have hj2:j<ps.length:=by simp at cj;omega
   obtain ⟨p,hp⟩:∃p,ps[j]=p:=⟨_,rfl⟩
   obtain ⟨hp0,hpn⟩:=hpr p (hp▸qo hj2)
   have hpc2:=hpS p (hp▸qo hj2)
   refine zg<|zd<|zj<|ae<|za (bh j wz j6 U U U (by rw[qk hj2,hp])) ?_
   refine ay j7 U<|ap U<|z6<|zd<|ae<|aE U<|aw U<|za (zn Zb U j8 (by decide) U U)<|za (zt (c:=.own _ _) j9 U ⟨_,.t1⟩ U)<|aa U<|za (yp (j:=p.toNat) wz j6 U U (by omega) ⟨_,.t2⟩ (by first|rfl|(simp[aQ,aW];done)|(simp[aQ,aW];omega)) (by omega))<|za (q3 (j:=p.toNat) j7 U ⟨_,.t2⟩ (hLg p hp0 hpn))<|ai U U<|z6<|zy U (fun cl=>?_) (fun cl=>?_)
   ·refine y7<|aO<|aC U U<|aa U<|z6 ?_
    exact ⟨(j+1,rows),pS,aH,aD,⟨hj2,hF⟩,by dsimp only;omega⟩
   ·have hpV:p∈V:=by have h0:¬gi (bT S n) p=-1:=(by simpa using cl);rw[←hVe];exact (hG.lev_mem p).1 h0
    refine zg<|ae<|aa U<|ap U<|z6<|zj<|y8 (γ:=Int × List (List Int)) [0,2,7,12,13,14,21,22,23] (fun g=>[(10,.int .i64 g.1)]) (fun g=>[(0,du eI 23 3 fb g.2),(t,.cells 130 [.own a n,.own b n,x,eb fb n]),(b,.grow 1 3 (cI (bT S n))),(a,.grow 1 3 (cI (bi S n)))]) (fun g=>((g.1∈V∧(c=0∨f9 (gi (bl S n)) g.1 (gi (bl S n) c)))∨(c=0∧g.1=-1))∧tb n g.2) (fun g=>(gi (bT S n) g.1+1).toNat) (p,rows) aH aD (⟨.inl ⟨hpV,um hG (by rw[hVe];exact hcV) (by rw[hVe];exact hpV) hpc2⟩,hF⟩) ?_
    rintro ⟨y,rows⟩ ⟨hy,hF⟩
    try dsimp only at *
    refine zd<|ae<|aa U<|aE U<|aw U<|za (zn Zb U j8 (by decide) U U)<|za (zt (c:=.own _ _) j9 U ⟨_,.t1⟩ U)<|aa U<|za (yp (j:=c.toNat) wz j6 U U (by omega) ⟨_,.t3⟩ (by first|rfl|(simp[aQ,aW];done)|(simp[aQ,aW];omega)) (by omega))<|za (q3 (j:=c.toNat) j7 U ⟨_,.t3⟩ (hNg c hc0 hcn))<|aM U U<|z6<|zy U (fun cy=>?_) (fun cy=>?_)
    ·have hne:y≠gi (bi S n) c:=by simpa using cy
     obtain ⟨hyV,hnx,hms⟩:=vT hG (hVe▸hcV) (by rw[hVe];exact hy) hne
     rw[hVe] at hyV hnx
     obtain ⟨hy0,hyn⟩:=hVr y hyV
     have hyl:y.toNat<rows.length:=by rw[hF.1];omega
     have hrl:=hF.len (qo hyl)
     refine zg<|zd<|zj<|ae<|aE U<|aw U<|za (zn Zb U Xa (by decide) U U)<|za (zt (c:=eb _ _) isAgg70 U ⟨_,.t1⟩ U)<|aa U<|za (qh (j:=y.toNat) ji j8 U U (by omega) (by omega))<|q8 (j:=y.toNat) (r:=rows[y.toNat]) j9 U (qk hyl) (fun _=>.head)<|fun i58=>aa U<|zr U (zh (.l (.r (.r (.r (.r (.rest _))))))) (pe rows[y.toNat] c i58 _ (by omega)) ?_
     rintro r60 O60 ⟨rfl,rfl⟩
     refine aB U<|zf (aX.nestBack (r:=rows[y.toNat]) .head .head) ?_
     rw[List.set_getElem_self]
     refine z6<|zy U (fun cin=>?_) (fun cin=>?_)
     ·have hnin:c ∉ rows[y.toNat]:=by simpa using cin
      refine ya (γ:=Unit) [0,2,7,10,12,13,14,21,22,23] (fun u=>[]) (fun u=>[(t,.cells 130 [.own a n,.own b n,x,eb fb n]),(b,.grow 1 3 (cI (bT S n))),(a,.grow 1 3 (cI (bi S n))),(0,du eI 23 3 fb (rows.set y.toNat (rows[y.toNat]++[c])))]) (fun u=>True) ?_ (fun _ _ h=>h) ?_
      ·refine zw (fun j=>Nat.beq j 16) (by kernel_rfl) U (zh (.l (.r (.r (.r (.rest _))))))<|ak 0 U (ef U)<|ak 1 U (yb U)<|ak 2 U (zn Zb U Xa (by decide) U U)<|ak 3 U (zt (c:=eb _ _) isAgg70 U ⟨_,.head⟩ U)<|ak 4 U (dq U)<|ak 5 U (ef U)<|ak 6 U (yb U)<|ak 7 U (zn Zb U Xa (by decide) U U)<|ak 8 U (zt (c:=eb _ _) isAgg70 U ⟨_,.head⟩ U)<|ak 9 U (dq U)<|ak 10 U (qh (j:=y.toNat) ji j8 U U (by omega) (by omega))<|ak 12 U (dq U)<|yq (i:=11) (j:=13) U U (by kernel_rfl) ?_ ?_
       ·refine q8 (j:=y.toNat) (r:=rows[y.toNat]) j9 U (qk hyl) (fun _=>.head)<|fun i73=>z6<|ba 13 U<|y4 (rows:=[[_]]) cC U U U U U<|z6<|ba 14 U<|yj (k:=1) wz X8 U U U U U (fun _=>.head) (by rw[eI.av_len];rfl) (by decide) U (by show (_+1)*8≤_;omega) (by show _+1≤_;omega)<|fun i76=>z6<|ak 15 U (qh (j:=y.toNat) ji j8 U U (by omega) (by omega))<|ym<|yi (i:=16) U (by kernel_rfl) (by kernel_rfl)<|qi (j:=y.toNat) (r:=rows[y.toNat]++[c]) j8 U U (by omega) .t3 .t3 U (eI.av_push _ _) (by simp)<|z6<|yo (by kernel_rfl) ?_
        exact ⟨(),nv,trivial,aD,trivial⟩
       ·refine y4 (rows:=[[_]]) cC U U U U U<|z6<|ba 11 U<|q8 (j:=y.toNat) (r:=rows[y.toNat]) j9 U (qk hyl) (fun _=>.head)<|fun i73=>z6<|ba 14 U<|yj (k:=1) wz X8 U U U U U (fun _=>.head) (by rw[eI.av_len];rfl) (by decide) U (by show (_+1)*8≤_;omega) (by show _+1≤_;omega)<|fun i76=>z6<|ak 15 U (qh (j:=y.toNat) ji j8 U U (by omega) (by omega))<|ym<|yi (i:=16) U (by kernel_rfl) (by kernel_rfl)<|qi (j:=y.toNat) (r:=rows[y.toNat]++[c]) j8 U U (by omega) .t3 .t3 U (eI.av_push _ _) (by simp)<|z6<|yo (by kernel_rfl) ?_
        exact ⟨(),nv,trivial,aD,trivial⟩
      ·rintro _ _
       refine y3 (zb (zc .t3))<|aO<|aE U<|aw U<|za (zn Zb U j8 (by decide) U U)<|za (zt (c:=.own _ _) j9 U ⟨_,.t1⟩ U)<|aa U<|za (yp (j:=y.toNat) wz j6 U U (by omega) ⟨_,.t3⟩ (by first|rfl|(simp[aQ,aW];done)|(simp[aQ,aW];omega)) (by omega))<|za (q3 (j:=y.toNat) j7 U ⟨_,.t3⟩ (hNg y hy0 hyn))<|ap U<|z6 ?_
       exact ⟨(gi (bi S n) y,rows.set y.toNat (rows[y.toNat]++[c])),n8,aH,aD,⟨hnx,hF.push hyl hc0 hcn hnin⟩,by dsimp only;omega⟩
     ·refine zg<|aO<|aE U<|aw U<|za (zn Zb U j8 (by decide) U U)<|za (zt (c:=.own _ _) j9 U ⟨_,.t1⟩ U)<|aa U<|za (yp (j:=y.toNat) wz j6 U U (by omega) ⟨_,.t3⟩ (by first|rfl|(simp[aQ,aW];done)|(simp[aQ,aW];omega)) (by omega))<|za (q3 (j:=y.toNat) j7 U ⟨_,.t3⟩ (hNg y hy0 hyn))<|ap U<|z6 ?_
      exact ⟨(gi (bi S n) y,rows),n8,aH,aD,⟨hnx,hF⟩,by dsimp only;omega⟩
    ·refine y7<|aO<|aC U U<|aa U<|z6 ?_
     exact ⟨(j+1,rows),pS,aH,aD,⟨hj2,hF⟩,by dsimp only;omega⟩
  ·refine y7<|aO<|aC U U<|aa U<|z6 ?_
   exact ⟨(k+1,rows),fl,aH,aD,⟨hk2,hF⟩,by dsimp only;omega⟩
 ·refine y7<|ae<|aE U<|aw U<|za (zn Zb U Xa (by decide) U U)<|za (zt (c:=eb _ _) isAgg70 U ⟨_,.t1⟩ U)<|za (Gv.lenN ji U)<|aa U<|z6<|zj<|y8 (γ:=Nat × List (List Int)) [0,84] (fun g=>[(85,.int .i64 g.1)]) (fun g=>[(0,du eI 23 3 fb g.2),(t,.cells 130 [.own a n,.own b n,x,eb fb n]),(b,.grow 1 3 (cI (bT S n))),(a,.grow 1 3 (cI (bi S n)))]) (fun g=>g.1≤n∧tb n g.2) (fun g=>n - g.1) (0,rows) aH aD (⟨qn _,hF⟩) ?_
  rintro ⟨m,rows⟩ ⟨hm,hF⟩
  try dsimp only at *
  refine ae<|ax U U<|z6<|zd<|zu U (fun cm=>?_) (fun cm=>?_)
  ·have hm2:m<n:=by simp at cm;omega
   have hml:m<rows.length:=by rw[hF.1];omega
   have hrl:=hF.len (qo hml)
   refine zg<|zd<|zj<|ae<|aa U<|ap U<|z6<|aO<|aE U<|aw U<|za (zn Zb U Xa (by decide) U U)<|za (zt (c:=eb _ _) isAgg70 U ⟨_,.t1⟩ U)<|aa U<|za (qh (j:=m) ji j8 U U U (by omega))<|q8 (j:=m) (r:=rows[m]) j9 U (qk hml) (fun _=>.head)<|fun i94=>zr U (zh (.l (.r (.r (.r (.r (.rest _))))))) (zC rows[m] i94 _ (by omega)) ?_
   rintro r95 O95 ⟨rfl,rfl⟩
   refine z6<|y3 (aX.nestBackN (r:=jQ rows[m]) (eB _).length_eq .head .head)<|aO<|aC U U<|aa U<|z6 ?_
   exact ⟨(m+1,rows.set m (jQ rows[m])),cV,aH,aD,⟨hm2,hF.sort hml⟩,by dsimp only;omega⟩
  ·refine y7<|yh ?_
   exact ⟨rfl,rows,hF,rfl⟩
end Go.Proofs.YtdilpodccjlkgaaGreatDoor
