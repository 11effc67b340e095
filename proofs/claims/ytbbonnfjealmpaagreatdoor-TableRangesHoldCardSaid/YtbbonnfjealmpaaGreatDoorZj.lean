/- What is found among numbers; the fronts. No conditions but bounds. -/
import Derived.Test.YtbbonnfjealmpaaGreatDoorZe
import Derived.Test.YtbbonnfjealmpaaGreatDoorZf
import Derived.Test.YtbbonnfjealmpaaGreatDoorZi
import Derived.Test.YtbbonnfjealmpaaGreatDoorZh
import Derived.LaidEqlPtr
set_option linter.unusedVariables false
set_option linter.unusedSimpArgs false
set_option linter.unusedSectionVars false
namespace Go.Proofs.YtbbonnfjealmpaaGreatDoor
section
open Go.Proofs.Tryz
def nX (l:List Bool) (bs:List Int):List Bool:=bs.foldl (fun l b=>l.set b.toNat true) l
theorem ko:∀(bs:List Int) (l:List Bool),(nX l bs).length=l.length
 |[],_=>rfl
 |b::bs,l=>by show (nX (l.set b.toNat true) bs).length=_;rw[ko bs,List.length_set]
theorem AH (l:List Bool) (bs:List Int) (b:Int):nX l (bs++[b])=(nX l bs).set b.toNat true:=by unfold nX;rw[List.foldl_append];rfl
theorem uB (k:Nat):∀(bs:List Int) (l:List Bool),(∀b∈bs,0≤b)→k<l.length→(nX l bs)[k]?=some (decide ((k:Int)∈bs)||(l[k]?).getD false)
 |[],l,_,hk=>by show l[k]?=_;rw[qx hk];simp
 |b::bs,l,h,hk=>by
  show (nX (l.set b.toNat true) bs)[k]?=_
  rw[uB k bs _ (fun c hc=>h c (.tail _ hc)) (by rw[List.length_set];exact hk),List.getElem?_set]
  have h0:=h b (.head _)
  by_cases e:b.toNat=k
  ·have:(k:Int)=b:=by omega
   rw[if_pos e,if_pos (by omega),this];simp
  ·have:¬(k:Int)=b:=by omega
   rw[if_neg e];simp[this]
def gG (E:Int→List Int) (n:Nat):List Bool:=nX (List.replicate n false) (aH E n)
theorem rK (E:Int→List Int) (n:Nat):(gG E n).length=n:=by unfold gG;rw[ko];simp
theorem rL {E:Int→List Int} {n:Nat} (hE:EOk E n) {k:Nat} (hk:k<n):(gG E n)[k]?=some (decide ((k:Int)∈aH E n)):=by
 unfold gG
 rw[uB k _ _ (fun b hb=>(cQ hE hb).1) (by simp;exact hk)]
 simp[hk]
theorem nh {f:ab} (hE:cg f):(gG (ah f) f.blocks.length).contains false=false↔E3 f:=by
 have hG:=hE.grph.toEOk
 constructor
 ·intro h i hi
  have hg:=rL hG hi
  apply (bQ hG _).1
  apply Classical.byContradiction
  intro hn
  rw[wg hn] at hg
  have:=w9 hg
  rw[Bool.eq_false_iff] at h
  exact h (by simpa using this)
 ·intro h
  rw[Bool.eq_false_iff]
  intro hc
  have hc:false∈gG (ah f) f.blocks.length:=by simpa using hc
  obtain ⟨k,hk,e⟩:=List.getElem_of_mem hc
  have hk2:=hk
  rw[rK] at hk2
  have hg:=rL hG hk2
  rw[qx hk,e] at hg
  have hm:=(bQ hG (k:Int)).2 (h k hk2)
  rw[we hm] at hg
  cases hg
def G9 (f:ab) (i:Nat) (p:cZ):Bool:=decide (lk p.from_=bj (ah f) f.blocks.length i)
def Fk (f:ab) (i:Nat):Bool:=((f.blocks[i]?).map fun b=>b.phis.all (G9 f i)).getD true
def dy (f:ab):Bool:=(List.range f.blocks.length).all (Fk f)
theorem my {f:ab} {i:Nat} {b:aK} (h:f.blocks[i]?=some b):Fk f i=b.phis.all (G9 f i):=by unfold Fk;rw[h];rfl
theorem xz (f:ab):dy f=true↔E2 f:=by
 unfold dy E2
 rw[wi]
 constructor
 ·intro h i hi p hp
  have:=h i (List.mem_range.2 hi)
  rw[my (qx hi),wi] at this
  exact oH.1 (by simpa [G9] using this p hp)
 ·intro h i hi
  have hi:=List.mem_range.1 hi
  rw[my (qx hi),wi]
  intro p hp
  simpa [G9] using oH.2 (h i hi p hp)
theorem cL {p:Nat→Bool} {k:Nat} (h:(List.range k).all p=true) (hk:p k=true):(List.range (k+1)).all p=true:=by rw[List.range_succ,List.all_append,h];simp[hk]
theorem dL {p:Nat→Bool} {k n:Nat} (hk:k<n) (h:p k=false):(List.range n).all p=false:=by
 rw[Bool.eq_false_iff];intro ha
 have:=List.all_eq_true.1 ha k (List.mem_range.2 hk)
 rw[h] at this;cases this
def cM {α:Type} (n:Nat) (ev:List (Int × α)):List (List α):=(List.range n).map fun (v:Nat)=>(ev.filter fun e=>decide (e.1=(v:Int))).map (·.2)
theorem cX {α:Type} (n:Nat) (ev:List (Int × α)):(cM n ev).length=n:=by unfold cM;simp
theorem fQ {α:Type} {n:Nat} (ev:List (Int × α)) {v:Nat} (h:v<n):(cM n ev)[v]?=some ((ev.filter fun e=>decide (e.1=(v:Int))).map (·.2)):=by unfold cM;rw[w7,List.getElem?_range h];rfl
theorem rM {α:Type} (n:Nat):List.replicate n []=cM (α:=α) n []:=by
 apply List.ext_getElem
 ·rw[cX];simp
 ·intro i h1 h2;unfold cM;simp
theorem kR {α:Type} {n:Nat} {ev:List (Int × α)} {v:Nat} (h:v<(cM n ev).length):(cM n ev)[v].length≤ev.length:=by
 have h2:v<n:=by rwa [cX] at h
 have:=fQ ev h2
 rw[qx h] at this
 rw[Option.some.inj this,w6]
 exact List.length_filter_le _ _
theorem lX {α:Type} {n:Nat} {ev:List (Int × α)} {c:Int} {x:α} (h0:0≤c) (h:c.toNat<(cM n ev).length):(cM n ev).set c.toNat ((cM n ev)[c.toNat]++[x])=cM n (ev++[(c,x)]):=by
 have h2:c.toNat<n:=by rwa [cX] at h
 apply List.ext_getElem?
 intro v
 rw[List.getElem?_set]
 by_cases hv:v<n
 ·rw[fQ _ hv]
  have hr:=fQ ev h2
  rw[qx h] at hr
  rw[Option.some.inj hr]
  by_cases e:c.toNat=v
  ·have:c=(v:Int):=by omega
   rw[if_pos e,if_pos (by rw[cX];omega),fQ _ hv]
   have e2:((c.toNat:Nat):Int)=c:=by omega
   rw[e2,this,List.filter_append,wb]
   simp
  ·have:¬c=(v:Int):=by omega
   rw[if_neg e,fQ _ hv]
   simp[List.filter_append,this]
 ·have hn:(cM n (ev++[(c,x)]))[v]?=none:=List.getElem?_eq_none (by rw[cX];omega)
  rw[if_neg (by omega),hn,List.getElem?_eq_none (by rw[cX];omega)]
def dW (i:Nat) (ps:List cZ):List (Int × km):=ps.map fun p=>(p.dst,((i:Int),-1))
def gX (i:Nat) (xs:List aB):List (Int × km):=(xs.zipIdx.filter fun x=>decide (0≤x.1.dst)).map fun x=>(x.1.dst,((i:Int),(x.2:Int)))
def rN (i:Nat) (b:aK):List (Int × km):=dW i b.phis++gX i b.insts
def dT (f:ab) (k:Nat):List (Int × km):=((f.blocks.take k).zipIdx).flatMap fun b=>rN b.2 b.1
theorem nY {α:Type} {l:List α} {k:Nat} (h:k<l.length):(l.take (k+1)).zipIdx=(l.take k).zipIdx++[(l[k],k)]:=by
 rw[qy h,List.zipIdx_append,wd,Nat.min_eq_left (by omega)]
 simp
theorem mz (i:Nat) {ps:List cZ} {j:Nat} (h:j<ps.length):dW i (ps.take (j+1))=dW i (ps.take j)++[(ps[j].dst,((i:Int),-1))]:=by
 unfold dW;rw[qy h,wb];rfl
theorem kp (i:Nat) {xs:List aB} {j:Nat} (h:j<xs.length):gX i (xs.take (j+1))=gX i (xs.take j)++if 0≤xs[j].dst then[(xs[j].dst,((i:Int),(j:Int)))] else[]:=by
 unfold gX;rw[nY h,List.filter_append,wb]
 by_cases h0:0≤xs[j].dst
 ·simp[h0]
 ·simp[h0]
theorem gH {f:ab} {k:Nat} (h:k<f.blocks.length):dT f (k+1)=dT f k++rN k f.blocks[k]:=by
 unfold dT;rw[nY h,List.flatMap_append];simp
theorem rO (i:Nat) (xs:List aB):(gX i xs).length≤xs.length:=by
 unfold gX;rw[w6];exact Nat.le_trans (List.length_filter_le _ _) (by simp)
theorem Fl (i:Nat) (b:aK):(rN i b).length≤b.phis.length+b.insts.length:=by
 have:=rO i b.insts
 unfold rN dW;rw[w5,w6];omega
theorem xA {f:ab} {m:Nat} (h:∀b∈f.blocks,b.phis.length+b.insts.length≤m):∀k,k≤f.blocks.length→(dT f k).length≤k*m
 |0,_=>by simp[dT]
 |k+1,hk=>by
  have h1:=xA h k (by omega)
  have h2:=Fl k f.blocks[k]
  have h3:=h _ (w3 (show k<f.blocks.length by omega))
  rw[gH (by omega),w5,Nat.add_mul];omega
theorem H7 (i v:Nat) (b:aK):((rN i b).filter fun e=>decide (e.1=(v:Int))).map (·.2)=nR v i b:=by
 unfold rN dW gX nR
 rw[List.filter_append,wb,List.filter_map,List.map_map,List.filter_map,List.map_map,List.filter_filter]
 congr 1
 congr 1
 apply List.filter_congr
 intro x _
 by_cases e:x.1.dst=(v:Int)
 ·have:0≤x.1.dst:=by omega
  simp[e]
 ·simp[e]
theorem nZ (f:ab) (v:Nat):((dT f f.blocks.length).filter fun e=>decide (e.1=(v:Int))).map (·.2)=bp f v:=by
 unfold dT bp
 rw[w4,List.filter_flatMap,List.map_flatMap]
 congr 1
 funext b
 exact H7 b.2 v b.1
def rP (f:ab):List (List km):=cM f.vars.length (dT f f.blocks.length)
theorem rQ {f:ab} {v:Nat} (h:v<f.vars.length):(rP f)[v]?=some (bp f v):=by unfold rP;rw[fQ _ h,nZ]
theorem AJ (f:ab):(rP f).length=f.vars.length:=cX _ _
def kq (f:ab) (v:Nat):Bool:=!(decide (1<(bp f v).length)||decide (0<(bp f v).length)&&decide (v<f.params.length))
def mR (f:ab):Bool:=(List.range f.vars.length).all (kq f)
theorem oM (f:ab):mR f=true↔mP f:=by
 unfold mR mP kq
 rw[wi]
 constructor
 ·intro h v hv
  have:=h v (List.mem_range.2 hv)
  simp only[Bool.not_eq_true',Bool.or_eq_false_iff,Bool.and_eq_false_iff,decide_eq_false_iff_not] at this
  refine ⟨by omega,fun hne=>?_⟩
  have hl:=List.length_pos_iff.2 hne
  rcases this.2 with h1|h1<;>omega
 ·intro h v hv
  obtain ⟨h1,h2⟩:=h v (List.mem_range.1 hv)
  simp only[Bool.not_eq_true',Bool.or_eq_false_iff,Bool.and_eq_false_iff,decide_eq_false_iff_not]
  refine ⟨by omega,?_⟩
  by_cases e:bp f v=[]
  ·left;rw[e];simp
  ·right;have:=h2 e;omega
def dp (f:ab):List km:=(List.range f.vars.length).map fun (v:Nat)=>aD f v
theorem jO {f:ab} {v:Nat} (h:v<f.vars.length):(dp f)[v]?=some (aD f v):=by unfold dp;rw[w7,List.getElem?_range h];rfl
theorem lY (f:ab):(dp f).length=f.vars.length:=by simp[dp]
def eC (f:ab) (m:km) (b at_:Int):Bool:=if m.1<0 then true else if m.1=b then decide (m.2<at_) else lS (ah f) f.blocks.length m.1 b
theorem gI {f:ab} (hE:cg f) (m:km) (b at_:Int):eC f m b at_=true↔bM f m b at_:=by
 unfold eC bM
 by_cases h0:m.1<0
 ·rw[if_pos h0];simp[h0]
 ·rw[if_neg h0]
  by_cases h1:m.1=b
  ·rw[if_pos h1];simp[h1];omega
  ·rw[if_neg h1,hE.grph.domB_iff]
   constructor
   ·intro h;exact .inr (.inr ⟨by omega,h1,h⟩)
   ·rintro (h|h|h)
    ·exact absurd h h0
    ·exact absurd h.1 h1
    ·exact h.2.2
def JV (f:ab) (p:cZ):Bool:=(p.args.zip p.from_).all fun q=>eC f (aD f q.1) q.2 (fA f q.2)
def Fm (f:ab) (i:Nat) (x:aB × Nat):Bool:=x.1.args.all fun v=>eC f (aD f v) i x.2
def KH (f:ab) (i:Nat) (b:aK):Bool:=decide (b.term.kind=0)||eC f (aD f b.term.var) i b.insts.length
def tF (f:ab) (i:Nat) (b:aK):Bool:=b.phis.all (JV f)&&b.insts.zipIdx.all (Fm f i)&&KH f i b
def Lg (f:ab) (i:Nat):Bool:=((f.blocks[i]?).map (tF f i)).getD true
def AK (f:ab):Bool:=(List.range f.blocks.length).all (Lg f)
theorem rR {f:ab} {i:Nat} {b:aK} (h:f.blocks[i]?=some b):Lg f i=tF f i b:=by unfold Lg;rw[h];rfl
theorem xB {f:ab} (hE:cg f) (i:Nat) (b:aK):tF f i b=true↔vo f i b:=by
 unfold tF vo
 rw[wh,wh,and_assoc]
 refine and_congr ?_ (and_congr ?_ ?_)
 ·rw[wi]
  refine forall_congr' fun p=>forall_congr' fun _=>?_
  unfold JV
  rw[wi]
  exact forall_congr' fun q=>forall_congr' fun _=>gI hE _ _ _
 ·rw[wi]
  constructor
  ·intro h k hk v hv
   have:=h (b.insts[k],k) (List.mem_zipIdx_iff_getElem?.2 (qx hk))
   unfold Fm at this
   rw[wi] at this
   exact (gI hE _ _ _).1 (this v hv)
  ·intro h x hx
   have hx:=List.mem_zipIdx_iff_getElem?.1 hx
   obtain ⟨hk,e⟩:=List.getElem?_eq_some_iff.1 hx
   unfold Fm
   rw[wi]
   intro v hv
   exact (gI hE _ _ _).2 (h x.2 hk v (by rw[e];exact hv))
 ·unfold KH
  rw[Bool.or_eq_true,wm,gI hE]
theorem Fo {f:ab} (hE:cg f):AK f=true↔JO f:=by
 unfold AK JO
 rw[wi]
 constructor
 ·intro h i hi
  have:=h i (List.mem_range.2 hi)
  rw[rR (qx hi)] at this
  exact (xB hE _ _).1 this
 ·intro h i hi
  have hi:=List.mem_range.1 hi
  rw[rR (qx hi)]
  exact (xB hE _ _).2 (h i hi)
def cT (f:ab):Bool:=dy f&&(!(gG (ah f) f.blocks.length).contains false&&(mR f&&AK f))
theorem Dj {f:ab} (hE:cg f):cT f=true↔E4 f:=by
 unfold cT E4
 rw[wh,wh,wh,Bool.not_eq_true',xz,nh hE,oM,Fo hE]
end
section
open Go.Proofs.Tryz
open Go.Proofs Go.Lib Go.Shelf Go.RowKit
variable {E:World}
set_option maxRecDepth 20000
theorem kS (f:ab) (hf:small f) (hL:bx E):aP prog E 136 [.agg (bw f)] (.bool (bf f)):=by
 refine zp func136 U (by decide) U<|ae<|y6 (cs:=_) U U U<|ad U<|z2<|ae<|ac Z0 ji U U<|ze (ng f hf hL) U<|ao U U<|ad U<|z2<|zg<|zm (x:=.bool _) U ?_
 cases bf f<;>rfl
theorem dM {f:ab} (h:bf f=true):cg f:=by
 unfold bf at h
 rw[wh,iZ] at h
 exact (wk h.1).ends
theorem xC (f:ab) (hf:small f) (hL:bx E) (ht:bf f=true):aP prog E 114 [.agg (bw f)] (pM eI (du f f.blocks.length)):=by
 have hn:=hf.2.2.1
 refine zp func114 U (by decide) U<|ae<|y6 (cs:=_) U U U<|cE U<|z2<|zb<|ae<|ac Z0 ji U U<|ze (kS f hf hL) U<|aJ U<|z2<|yq U (by rw[ht];rfl)<|zf<|ae<|ac Z0 ji U U<|ze (rx f (dM ht) (by omega)) U<|z8 (oA U)<|z2<|zg<|zm (x:=.fro _ _) U ?_
 rfl
theorem pu (f:ab) (hE:cg f) (hn:f.blocks.length≤1000):aP prog E 162 [.agg (bw f)] (.fro 1 ((aH (ah f) f.blocks.length).map bO)):=
 AA f hE (by omega) fun l i T h=>xj l i T h
theorem xD (f:ab) (hf:small f) (hL:bx E) (ht:bf f=true):aP prog E 113 [.agg (bw f)] (.fro 1 ((aH (ah f) f.blocks.length).map bO)):=by
 have hn:=hf.2.2.1
 refine zp func113 U (by decide) U<|ae<|y6 (cs:=_) U U U<|cE U<|z2<|zb<|ae<|ac Z0 ji U U<|ze (kS f hf hL) U<|aJ U<|z2<|yq U (by rw[ht];rfl)<|zf<|ae<|ac Z0 ji U U<|ze (pu f (dM ht) (by omega)) U<|z8 (oA U)<|z2<|zg<|zm (x:=.fro _ _) U ?_
 rfl
def tG (x:Bool):List AV:=[.bool x]
theorem AL (f:ab) (hE:cg f) (hn:f.blocks.length≤1000):aP prog E 139 [.agg (bw f)] (.fro 1 ((gG (ah f) f.blocks.length).map tG)):=by
 have hG:=hE.grph
 have hol:=fZ hG
 refine zp func139 U (by decide) U<|ae<|y6 (cs:=_) U U U<|cE U<|z2<|ae<|ak je U Zd U U<|aI Zf U<|aj ju U<|qm (m:=f.blocks.length) jw Yq U U U U U (by simp) (by simp) (by show (1:Int)*_≤_;omega) (by omega)<|fun i9=>z8 (ei U)<|z2<|zb<|ae<|ac Z0 ji U U<|ze (pu f hE hn) U<|aj j7 U<|aa U<|z2<|zi<|y5 (γ:=Nat) [3,11,12] (fun k=>[(13,.i k)]) (fun k=>[(i9,.grow 1 4 (cB (nX (List.replicate f.blocks.length false) ((aH (ah f) f.blocks.length).take k))))]) (fun k=>k≤(aH (ah f) f.blocks.length).length) (fun k=>(aH (ah f) f.blocks.length).length - k) 0 aL aE (w2 _) ?_
 rintro k hk
 refine ae<|ap U U<|z2<|zb<|zn U (fun ck=>?_) (fun ck=>?_)
 ·have hk2:k<(aH (ah f) f.blocks.length).length:=by simp at ck;omega
  obtain ⟨b,hb⟩:∃b,(aH (ah f) f.blocks.length)[k]=b:=⟨_,rfl⟩
  have hr:=cQ hG.toEOk (hb▸w3 hk2)
  refine zf<|zb<|zi<|ae<|z8 (bB k j7 j9 U U U (by rw[qx hk2,hb])) ?_
  refine aA jg U<|am U<|z2<|aW<|bL U<|aa U<|z8 (yd (j:=b.toNat) jw Zb U U (by omega) ⟨_,.head⟩ (by rw[aM,ko];simp) (by omega))<|q6 (j:=b.toNat) Zb U U .head (by rw[ko];simp;omega)<|z2<|aW<|aC U U<|aa U<|z2 ?_
  exact ⟨k+1,bW,aL,⟨_,(.refl _),by rw[qy hk2,AH,hb]⟩,hk2,by omega⟩
 ·have hkn:k=(aH (ah f) f.blocks.length).length:=by simp at ck;omega
  subst hkn
  rw[w4]
  refine y4<|ae<|bL U<|z8 (ei U)<|z2<|y7 (aR.knowB (t:=2) U .head (by rw[ko];simp))<|zg<|zm (x:=.fro _ _) U ?_
  rfl
theorem xE (f:ab) (hf:small f) (hL:bx E) (ht:bf f=true):aP prog E 101 [.agg (bw f)] (.fro 1 ((gG (ah f) f.blocks.length).map tG)):=by
 have hn:=hf.2.2.1
 refine zp func101 U (by decide) U<|ae<|y6 (cs:=_) U U U<|cE U<|z2<|zb<|ae<|ac Z0 ji U U<|ze (kS f hf hL) U<|aJ U<|z2<|yq U (by rw[ht];rfl)<|zf<|ae<|ac Z0 ji U U<|ze (AL f (dM ht) (by omega)) U<|z8 (oA U)<|z2<|zg<|zm (x:=.fro _ _) U ?_
 rfl
theorem xF (xs:List Bool) (v:Bool) (hl:xs.length≤281474976710656):aP prog E 138 [.fro 1 (xs.map tG),.bool v] (.int .i64 (cS (fun x=>decide (v=x)) xs 0)):=by
 refine zp func138 U (by decide) U<|ae<|am U<|z2<|zb<|ae<|bd U<|aj jw U<|aa U<|z2<|zi<|y5 (γ:=Nat) [0,1,7] (fun k=>[(8,.i k)]) (fun k=>[]) (fun k=>k≤xs.length∧(xs.take k).all (fun x=>!decide (v=x))) (fun k=>xs.length - k) 0 aL aE (⟨w2 _,U⟩) ?_
 rintro k ⟨hk,hall⟩
 refine ae<|ap U U<|z2<|zb<|zn U (fun ck=>?_) (fun ck=>?_)
 ·have hk2:k<xs.length:=by simp at ck;omega
  refine zf<|zb<|zi<|ae<|aa U<|am U<|z2<|ae<|aq U<|bd U<|aa U<|z8 (bB k jw Zb U U U (qx hk2))<|z8 (qe (c:=.bool _) Yn U)<|z8 (Gv.eqlB Yo U U)<|z2<|zw U (fun cp=>?_) (fun cp=>?_)
  ·refine ae<|aa U<|am U<|z2<|zg<|zm (x:=.int _ _) U ?_
   rw[bZ _ xs k hk hall,List.drop_eq_getElem_cons hk2,cS,if_pos (by simpa using cp)]
  ·refine zf<|aW<|aC U U<|aa U<|z2 ?_
   exact ⟨k+1,bW,aL,aE,⟨hk2,by rw[qy hk2,List.all_append,hall];simpa using cp⟩,by omega⟩
 ·have hkn:k=xs.length:=by simp at ck;omega
  refine y4<|ae<|am U<|z2<|zg<|zm (x:=.int _ _) U ?_
  rw[bZ _ xs k hk hall,hkn,List.drop_length,cS]
theorem rS (xs:List Bool) (v:Bool) (hl:xs.length≤281474976710656):aP prog E 100 [.fro 1 (xs.map tG),.bool v] (.bool (xs.contains v)):=by
 refine zp func100 U (by decide) U<|ae<|ad U<|z2<|ae<|bd U<|aq U<|ze (xF xs v hl) U<|z8 (q9 U U)<|ad U<|z2<|zg<|zm (x:=.bool _) U ?_
 rw[fX];congr 1;rw[w8];simp
theorem JW (xs:List Int) (hl:xs.length≤1000):bn prog E 181 [.fro 1 (xs.map bO)] [] (fun x O'=>∃i:Nat,x=.own i xs.length∧O'=[(i,.grow 1 3 (cI xs))]):=by
 refine zp func181 U (by decide) U<|ae<|cE U<|z2<|zb<|ae<|bd U<|ay.isNil j7 U U (fun hnil=>?_) ?_
 ·have hx:xs=[]:=by simpa using hnil
  subst hx
  refine z2<|yr U U<|ae<|cE U<|z2<|zg ?_
  repeat (first|refine ki ?_|refine gR ?_)
  refine CH (s:=2) (k:=1) (T:=3) U (fun i=>?_)
  refine zm (x:=.own _ _) U ?_
  exact ⟨i,rfl,rfl⟩
 ·refine z2<|yq U U<|zf<|ae<|yi (k:=1) j7 Y5<|fun i5=>bd U<|yg (k:=1) j7 Y5 U U U U U (fun _=>.head) (by simp) (by decide) (lW (fun _=>U) xs) (by show (_+_)*8≤_;simp<;>omega) (by simp<;>omega)<|fun i7=>z8 (ei U)<|z2<|zg<|zm (x:=.own _ _) U ?_
  exact ⟨i7,(by simp),by rw[←kJ];rfl⟩
theorem ni (f:ab) {k:Nat} (h:k<f.blocks.length):(du f f.blocks.length)[k]?=some (bj (ah f) f.blocks.length (k:Int)):=by unfold du;rw[w7,List.getElem?_range h];rfl
theorem xG (f:ab) (hE:cg f) (hf:small f):aP prog E 137 [.agg (bw f)] (.bool (dy f)):=by
 have hn:=hf.2.2.1
 refine zp func137 U (by decide) U<|ae<|y6 (cs:=_) U U U<|ad U<|z2<|ae<|ac Z0 ji U U<|ze (rx f hE (by omega)) U<|z8 (oA U)<|z2<|zb<|ae<|ak je U Zd U U<|aI Zf U<|aj ju U<|aa U<|z2<|zi<|y5 (γ:=Nat) [3,12,13] (fun k=>[(14,.i k)]) (fun k=>[]) (fun k=>k≤f.blocks.length∧(List.range k).all (Fk f)=true) (fun k=>f.blocks.length - k) 0 aL aE (⟨w2 _,U⟩) ?_
 rintro k ⟨hk,hall⟩
 refine ae<|ap U U<|z2<|zb<|zn U (fun ck=>?_) (fun ck=>?_)
 ·have hk2:k<f.blocks.length:=by simp at ck;omega
  obtain ⟨b,hbk⟩:∃b,f.blocks[k]=b:=⟨_,rfl⟩
  have hget:f.blocks[k]?=some b:=by rw[qx hk2,hbk]
  obtain ⟨hb0,hb1,hb2,hb3,hb4⟩:=hf.2.2.2.2 b (hbk▸w3 hk2)
  refine zf<|zb<|zi<|ae<|aa U<|z8 (bB k ju Z2 U U U hget)<|ac Yc Z2 U U<|zu (cs:=[.e,.n,.n,.int .i64 0,.int .i64 0,.int .i64 0,.int .i64 0]) Zh U U<|fun i5=>am U<|zj Z2 U U U U U U .head U<|zd (y8 (t:=5) U .head)<|z2<|ae<|ak jr U Zv U U<|aI Yd U<|aj Z8 U<|aa U<|z2<|zi<|y5 (γ:=Nat) [3,4,12,13,14,20,21] (fun j=>[(22,.i j)]) (fun j=>[]) (fun j=>j≤b.phis.length∧(b.phis.take j).all (G9 f k)=true) (fun j=>b.phis.length - j) 0 aL aE (⟨w2 _,U⟩) ?_
  rintro j ⟨hj,hjall⟩
  refine ae<|ap U U<|z2<|zb<|zn U (fun cj=>?_) (fun cj=>?_)
  ·have hj2:j<b.phis.length:=by simp at cj;omega
   have hpf:=(hb3 _ (w3 hj2)).2
   refine zf<|zb<|zi<|ae<|z8 (bB j Z8 Ze U U U (qx hj2))<|ac Ys Ze U U<|zu (cs:=[.int .i64 0,.n,.n]) Y1 U U<|fun i7=>zj Ze U U U U U U .head U<|zd (y8 (t:=7) U .head)<|z2<|ae<|ak Z4 U jh U U<|aI jx U<|y3 U (zo (.rest _)) (JW b.phis[j].from_ hpf) ?_
   rintro r28 O28 ⟨i8,rfl,rfl⟩
   refine z8 (ei U)<|z2<|ae<|bL U<|y3 U (zo (.l (.rest _))) (xk b.phis[j].from_ i8 _ (by omega)) ?_
   rintro r30 O30 ⟨rfl,rfl⟩
   refine z2<|y7 (aR.knowI (t:=8) U .head (by rw[(fj _).length_eq]))<|ae<|bd U<|bd U<|aa U<|z8 (bB k jy jh U U U (ni f hk2))<|aI jx U<|ze (pe (lk b.phis[j].from_) (bj (ah f) f.blocks.length (k:Int)) (by unfold qX;rw[(fj _).length_eq];omega)) U<|aJ U<|z2<|zw U (fun cq=>?_) (fun cq=>?_)
   ·refine ae<|ad U<|z2<|zg<|zm (x:=.bool _) U ?_
    rw[show dy f=false from dL hk2 (by rw[my hget];exact Bool.eq_false_iff.2 (dI hj2 (by simpa [G9] using cq)))]
   ·refine zf<|aW<|aC U U<|aa U<|z2 ?_
    exact ⟨j+1,lg,aL,aE,⟨hj2,bS hj2 hjall (by simpa [G9] using cq)⟩,by omega⟩
  ·have hjn:j=b.phis.length:=by simp at cj;omega
   subst hjn
   rw[w4] at hjall
   refine y4<|aW<|aC U U<|aa U<|z2 ?_
   exact ⟨k+1,bW,aL,aE,⟨hk2,cL hall (by rw[my hget];exact hjall)⟩,by omega⟩
 ·have hkn:k=f.blocks.length:=by simp at ck;omega
  subst hkn
  refine y4<|ae<|ad U<|z2<|zg<|zm (x:=.bool _) U ?_
  rw[show dy f=true from hall]
theorem vy (f:ab) (hf:small f) (hL:bx E):aP prog E 99 [.agg (bw f)] (.int .i64 (if (bf f&&dy f)=true then 0 else 3)):=by
 refine zp func99 U (by decide) U<|ae<|y6 (cs:=_) U U U<|am U<|z2<|zb<|ae<|ac Z0 ji U U<|ze (kS f hf hL) U<|aJ U<|aq U<|zt (s:=6) U (fun ct=>?_) (fun ct=>?_)
 ·refine z6 U U ct<|z6 U U ct<|z6 U U ct<|au U ct U<|z2<|yr U U<|ae<|am U<|z2<|zg<|zm (x:=.int _ _) U ?_
  rw[show bf f=false by simpa using ct];rfl
 ·have ht:bf f=true:=by simpa using ct
  refine z7 U U ct<|ac Z0 ji U U<|z7 U U ct<|ze (xG f (dM ht) hf) U<|z7 U U ct<|aJ U<|aw U ct U<|z2<|zw U (fun cj=>?_) (fun cj=>?_)
  ·refine ae<|am U<|z2<|zg<|zm (x:=.int _ _) U ?_
   rw[show dy f=false by simpa using cj];simp
  ·refine zf<|ae<|am U<|z2<|zg<|zm (x:=.int _ _) U ?_
   rw[ht,show dy f=true by simpa using cj];rfl
end
section
open Go.Proofs.Tryz
section
variable {S:Int→List Int} {at_:Int→Int} {V:List Int} {N:Int→Int}
theorem Dk (hV:tm S at_ V) (hN:j5 S at_ V N) {K:Nat} (hK:∀a b,a∈V→b∈V→at_ a+at_ b<K) {x y:Int} (hx:N x≠-1) (hy:N y≠-1) (hlt:at_ y<at_ x) :
  x≠0∧N (N x)≠-1∧at_ (N x)<at_ x∧ee N at_ K x y=ee N at_ K (N x) y:=by
 have h1:=(hV.pos x).1 (hN.mem x hx)
 have h2:=(hV.pos y).1 (hN.mem y hy)
 have h3:=hK x y (hN.mem x hx) (hN.mem y hy)
 have hx0:x≠0:=fun e=>by rw[e,hV.zero] at hlt;omega
 obtain ⟨g1,g2,g3⟩:=hN.near x hx0 hx
 refine ⟨hx0,g2,g3,?_⟩
 obtain ⟨k,rfl⟩:∃k,K=k+1:=⟨K - 1,by omega⟩
 have hm:=mr hV hN k (k+1) (N x) y g2 hy (by omega) (by omega)
 rw[hm]
 show (if x=y then x else if at_ y<at_ x then ee N at_ k (N x) y else ee N at_ k x (N y))=_
 rw[if_neg (fun e=>by rw[e] at hlt;omega),if_pos hlt]
theorem AM (hV:tm S at_ V) (hN:j5 S at_ V N) {K:Nat} (hK:∀a b,a∈V→b∈V→at_ a+at_ b<K) {x y:Int} (hx:N x≠-1) (hy:N y≠-1) (hlt:at_ x<at_ y) :
  y≠0∧N (N y)≠-1∧at_ (N y)<at_ y∧ee N at_ K x y=ee N at_ K x (N y):=by
 have h1:=(hV.pos x).1 (hN.mem x hx)
 have h2:=(hV.pos y).1 (hN.mem y hy)
 have h3:=hK x y (hN.mem x hx) (hN.mem y hy)
 have hy0:y≠0:=fun e=>by rw[e,hV.zero] at hlt;omega
 obtain ⟨g1,g2,g3⟩:=hN.near y hy0 hy
 refine ⟨hy0,g2,g3,?_⟩
 obtain ⟨k,rfl⟩:∃k,K=k+1:=⟨K - 1,by omega⟩
 have hm:=mr hV hN k (k+1) x (N y) hx g2 (by omega) (by omega)
 rw[hm]
 show (if x=y then x else if at_ y<at_ x then ee N at_ k (N x) y else ee N at_ k x (N y))=_
 rw[if_neg (fun e=>by rw[e] at hlt;omega),if_neg (by omega)]
theorem Dl {K:Nat} (hK:0<K) (x:Int):ee N at_ K x x=x:=by
 obtain ⟨k,rfl⟩:∃k,K=k+1:=⟨K - 1,by omega⟩
 show (if x=x then x else _)=x
 rw[if_pos rfl]
end
def xH (n:Nat) (V:List Int) (k:Nat):List Int:=((V.take k).zipIdx).foldl (fun l p=>l.set p.1.toNat (p.2:Int)) (List.replicate n (-1))
theorem oN {α:Type} {g:List Int→α→List Int} (h:∀l x,(g l x).length=l.length):∀(ws:List α) (l:List Int),(ws.foldl g l).length=l.length
 |[],_=>rfl
 |w::ws,l=>by rw[List.foldl_cons,oN h ws,h]
theorem rT (n:Nat) (V:List Int) (k:Nat):(xH n V k).length=n:=by unfold xH;rw[oN (fun l x=>List.length_set)];simp
theorem Dm {n:Nat} {V:List Int} {k:Nat} (h:k<V.length):(xH n V k).set V[k].toNat (k:Int)=xH n V (k+1):=by
 unfold xH;rw[nY h,List.foldl_append];rfl
theorem xI (n:Nat) (V:List Int):xH n V V.length=eh n V:=by unfold xH eh;rw[w4]
section
variable {S:Int→List Int} {at_ V:List Int} {preds:Int→List Int} {n:Nat}
def rU (at_:List Int) (K:Nat) (preds:Int→List Int) (V l:List Int) (q:Nat):List Int:=((V.drop 1).take q).foldl (kl at_ K preds) l
theorem AN {K q:Nat} {l:List Int} (h:q<(V.drop 1).length):rU at_ K preds V l (q+1)=kl at_ K preds (rU at_ K preds V l q) (V.drop 1)[q]:=by
 unfold rU;rw[qy h,List.foldl_append];rfl
theorem Dn {K:Nat} {l:List Int}:rU at_ K preds V l (V.drop 1).length=uo at_ K preds V l:=by
 unfold rU uo;rw[w4,List.drop_one]
theorem Do {K q:Nat} (l:List Int):(rU at_ K preds V l q).length=l.length:=rm K _ _
end
section
variable {E:Int→List Int} {n:Nat}
theorem uC (hE:fP E n) {b p:Int} (h:p∈bj E n b):0≤p∧p<n:=by
 unfold bj at h
 obtain ⟨i,h1,h2⟩:=List.mem_flatMap.1 h
 obtain ⟨c,_,rfl⟩:=List.mem_map.1 h2
 exact dB.1 h1
def bv (E:Int→List Int) (n:Nat):List Int:=(cR E n).set 0 (-1)
theorem f5 (E:Int→List Int) (n:Nat):(bv E n).length=n:=by unfold bv;rw[List.length_set,mv]
theorem gJ {b:Int} (h0:0≤b) (hb:b≠0):gi (bv E n) b=gi (cR E n) b:=by
 unfold bv gi
 rw[if_pos h0,if_pos h0,List.getElem?_set_ne (by omega)]
theorem vz (hn:0<n):gi (bv E n) 0=-1:=by
 unfold bv gi
 rw[if_pos (Int.le_refl _)]
 simp[mv,hn]
end
theorem AO (N at_:Int→Int) (K:Nat) (p:Int) (ps:List Int) (m:Int):gy N at_ K (p::ps) m=gy N at_ K ps (if at_ p=-1∨N p=-1 then m else if m=-1 then p else ee N at_ K m p):=rfl
end
section
open Go.Proofs.Tryz
open Go.Proofs
variable {E:World}
set_option maxRecDepth 20000
theorem Dp {S:Int→List Int} {V nr al:List Int} {n K i j:Nat} {T T':TypeId} (hV:tm S (gi al) V) (hN:j5 S (gi al) V (gi nr)) (hK:∀a b,a∈V→b∈V→gi al a+gi al b<K) (hK0:0<K) (hnl:nr.length=n) (hal:al.length=n) (hlt:∀b∈V,b<n) {a b:Int} (ha:gi nr a≠-1) (hb:gi nr b≠-1) :
  bn prog E 164 [.agg [.own i n,.own j n],.int .i64 a,.int .i64 b] [(j,.grow 1 T' (cI al)),(i,.grow 1 T (cI nr))]
   fun r O=>r=.int .i64 (ee (gi nr) (gi al) K a b)∧O=[(j,.grow 1 T' (cI al)),(i,.grow 1 T (cI nr))]:=by
 have hget:∀x,gi nr x≠-1→0≤x∧x.toNat<n:=fun x hx=>by
  have hm:=hN.mem x hx
  have:=hV.nn x hm
  have:=hlt x hm
  omega
 have hNl:∀x,gi nr x≠-1→nr[x.toNat]?=some (gi nr x):=fun x hx=>gD (hget x hx).1 (by rw[hnl];exact (hget x hx).2)
 have hAl:∀x,gi nr x≠-1→al[x.toNat]?=some (gi al x):=fun x hx=>gD (hget x hx).1 (by rw[hal];exact (hget x hx).2)
 have hpos:∀x,gi nr x≠-1→0≤gi al x:=fun x hx=>(hV.pos x).1 (hN.mem x hx)
 refine zp func164 U (by decide) U<|ae<|yl (cs:=_) U U U U<|fun i3=>am U<|z2<|zb<|zi<|y5 (γ:=Int × Int) [3] (fun g=>[(1,.i g.1),(2,.i g.2)]) (fun g=>[(i3,.cells 227 [.own i n,.own j n]),(j,.grow 1 T' (cI al)),(i,.grow 1 T (cI nr))]) (fun g=>gi nr g.1≠-1∧gi nr g.2≠-1∧ee (gi nr) (gi al) K g.1 g.2=ee (gi nr) (gi al) K a b) (fun g=>(gi al g.1+gi al g.2).toNat) (a,b) b7 aE (⟨ha,hb,U⟩) ?_
 rintro ⟨x,y⟩ ⟨hx,hy,hm⟩
 try dsimp only at *
 refine zb<|ae<|aa U<|aa U<|aO U U<|z2<|zw U (fun cxy=>?_) (fun cxy=>?_)
 ·have hxy:x≠y:=by simpa using cxy
  refine zf<|zi<|zb<|zi<|y5 (γ:=Int) [2,3] (fun u=>[(1,.i u)]) (fun u=>[(i3,.cells 227 [.own i n,.own j n]),(j,.grow 1 T' (cI al)),(i,.grow 1 T (cI nr))]) (fun u=>gi nr u≠-1∧ee (gi nr) (gi al) K u y=ee (gi nr) (gi al) K a b∧(u=x∨gi al u<gi al x)) (fun u=>(gi al u).toNat) x aL aE (⟨hx,hm,.inl U⟩) ?_
  rintro u ⟨hu,hmu,hux⟩
  refine zb<|zb<|zr (fun j=>false) (by kernel_rfl) U (zo (.r (.r (.r (.rest _)))))<|ai 0 U (zh Y0 U jh (by decide) U U)<|ai 1 U (zq (c:=.own _ _) jx U ⟨_,.head⟩ U)<|ai 2 U (dx U)<|ai 3 U (yd (j:=u.toNat) j7 j9 U U (by have:=hget u hu;omega) ⟨_,.t1⟩ (by first|rfl|(simp[aF,aM];done)|(simp[aF,aM];omega)) (hget u hu).2)<|ai 4 U (yw (j:=u.toNat) jg U ⟨_,.t1⟩ (hAl u hu))<|ai 5 U (zh Y0 U jh (by decide) U U)<|ai 6 U (zq (c:=.own _ _) jx U ⟨_,.head⟩ U)<|ai 7 U (dx U)<|ai 8 U (yd (j:=y.toNat) j7 j9 U U (by have:=hget y hy;omega) ⟨_,.t1⟩ (by first|rfl|(simp[aF,aM];done)|(simp[aF,aM];omega)) (hget y hy).2)<|ai 9 U (yw (j:=y.toNat) jg U ⟨_,.t1⟩ (hAl y hy))<|ai 10 U (Gv.gtr U U)<|bI<|zw U (fun c1=>?_) (fun c1=>?_)
  ·have c1:gi al y<gi al u:=by simpa using c1
   obtain ⟨h1,h2,h3,h4⟩:=Dk hV hN hK hu hy c1
   have hp:=hpos u hu
   have hp':=hpos _ h2
   refine zf<|zi<|aW<|z8 (zh Y0 U jh (by decide) U U)<|z8 (zq (c:=.own _ _) jx U ⟨_,.head⟩ U)<|aa U<|z8 (yd (j:=u.toNat) j7 j9 U U (by have:=hget u hu;omega) ⟨_,.t2⟩ (by first|rfl|(simp[aF,aM];done)|(simp[aF,aM];omega)) (hget u hu).2)<|z8 (yw (j:=u.toNat) jg U ⟨_,.t2⟩ (hNl u hu))<|am U<|z2 ?_
   exact ⟨gi nr u,b7,aL,aE,⟨h2,by rw[←h4];exact hmu,.inr (by rcases hux with rfl|h<;>omega)⟩,by omega⟩
  ·have c1:¬gi al y<gi al u:=by simpa using c1
   refine y4<|zi<|y5 (γ:=Int) [1,3] (fun z=>[(2,.i z)]) (fun z=>[(i3,.cells 227 [.own i n,.own j n]),(j,.grow 1 T' (cI al)),(i,.grow 1 T (cI nr))]) (fun z=>gi nr z≠-1∧ee (gi nr) (gi al) K u z=ee (gi nr) (gi al) K a b∧(z=y∨gi al z<gi al y)) (fun z=>(gi al z).toNat) y aL aE (⟨hy,hmu,.inl U⟩) ?_
   rintro z ⟨hz,hmz,hzy⟩
   refine zb<|zb<|zr (fun j=>false) (by kernel_rfl) U (zo (.r (.r (.r (.rest _)))))<|ai 0 U (zh Y0 U jh (by decide) U U)<|ai 1 U (zq (c:=.own _ _) jx U ⟨_,.head⟩ U)<|ai 2 U (dx U)<|ai 3 U (yd (j:=z.toNat) j7 j9 U U (by have:=hget z hz;omega) ⟨_,.t1⟩ (by first|rfl|(simp[aF,aM];done)|(simp[aF,aM];omega)) (hget z hz).2)<|ai 4 U (yw (j:=z.toNat) jg U ⟨_,.t1⟩ (hAl z hz))<|ai 5 U (zh Y0 U jh (by decide) U U)<|ai 6 U (zq (c:=.own _ _) jx U ⟨_,.head⟩ U)<|ai 7 U (dx U)<|ai 8 U (yd (j:=u.toNat) j7 j9 U U (by have:=hget u hu;omega) ⟨_,.t1⟩ (by first|rfl|(simp[aF,aM];done)|(simp[aF,aM];omega)) (hget u hu).2)<|ai 9 U (yw (j:=u.toNat) jg U ⟨_,.t1⟩ (hAl u hu))<|ai 10 U (Gv.gtr U U)<|bI<|zw U (fun c2=>?_) (fun c2=>?_)
   ·have c2:gi al u<gi al z:=by simpa using c2
    obtain ⟨h1,h2,h3,h4⟩:=AM hV hN hK hu hz c2
    have hp:=hpos z hz
    have hp':=hpos _ h2
    refine zf<|zi<|aW<|z8 (zh Y0 U jh (by decide) U U)<|z8 (zq (c:=.own _ _) jx U ⟨_,.head⟩ U)<|aa U<|z8 (yd (j:=z.toNat) j7 j9 U U (by have:=hget z hz;omega) ⟨_,.t2⟩ (by first|rfl|(simp[aF,aM];done)|(simp[aF,aM];omega)) (hget z hz).2)<|z8 (yw (j:=z.toNat) jg U ⟨_,.t2⟩ (hNl z hz))<|am U<|z2 ?_
    exact ⟨gi nr z,b7,aL,aE,⟨h2,by rw[←h4];exact hmz,.inr (by rcases hzy with rfl|h<;>omega)⟩,by omega⟩
   ·have c2:¬gi al u<gi al z:=by simpa using c2
    have hp1:=hpos x hx
    have hp2:=hpos y hy
    have hp3:=hpos u hu
    have hp4:=hpos z hz
    have hin:gi al x=gi al y→x=y:=fun e=>hV.inj x y (hN.mem x hx) (hN.mem y hy) e
    refine y4 ?_
    exact ⟨(u,z),aL,b7,aE,⟨hu,hz,hmz⟩,by dsimp only;rcases hux with rfl|hux<;>rcases hzy with rfl|hzy<;>omega⟩
 ·have hxy:x=y:=by simpa using cxy
  subst hxy
  rw[Dl hK0] at hm
  refine y4<|ae<|aa U<|am U<|z2<|y7 (qf .head)<|zg<|zm (x:=.int _ _) U ?_
  exact ⟨by rw[hm],rfl⟩
end
section
open Go.Proofs.Tryz
open Go.Proofs
theorem Lh:em prog 227 #[(0,1),(1,1)] [.n,.n]:=⟨_,_,Y0,zeroValue227,fun w=>by kernel_rfl,rfl⟩
variable {E:World}
set_option maxRecDepth 20000
theorem vA (f:ab) (hE:cg f) (hn:f.blocks.length≤1000):bn prog E 115 [.fro 1 ((aH (ah f) f.blocks.length).map bO),pM eI (du f f.blocks.length),.int .i64 f.blocks.length] []
  fun x O'=>∃i:Nat,x=.own i f.blocks.length∧O'=[(i,.grow 1 3 (cI (bv (ah f) f.blocks.length)))]:=by
 have hG:=hE.grph
 have hk:=hG.gok
 have hpos:=hG.npos
 have hol:=fZ hG
 obtain ⟨n,hnn⟩:∃n,f.blocks.length=n:=⟨_,rfl⟩
 obtain ⟨S,hS⟩:∃S,ah f=S:=⟨_,rfl⟩
 have hrow:∀k,k<n→(du f n)[k]?=some (bj S n (k:Int)):=fun k h=>by rw[←hnn,←hS];exact ni f (by omega)
 rw[hnn] at hk hG hpos hol hn ⊢
 rw[hS] at hk hG hol ⊢
 obtain ⟨V,hVe⟩:∃V,aH S n=V:=⟨_,rfl⟩
 have hNG:ur (eh n V) V (bj S n) n=cR S n:=by rw[←hVe];rfl
 rw[hVe] at hk hol ⊢
 have hVp:=hk.pos
 have hK:=hk.K
 have hdl:(V.drop 1).length+1=V.length:=by simp;omega
 refine zp func115 U (by decide) U<|ae<|cE U<|z2<|ae<|zx (rows:=[[_]]) cA U U U U U<|aa U<|y3 U (zo (.rest _)) (aS (-1) n (by omega) hpos) ?_
 rintro r18 O18 ⟨i18,rfl,rfl⟩
 refine zx (rows:=[[_]]) cA U U U U U<|aa U<|y3 U (zo (.r (.rest _))) (aS (-1) n (by omega) hpos) ?_
 rintro r21 O21 ⟨i21,rfl,rfl⟩
 refine z8 (zz (cps:=[(0,[_]),(1,[_])]) (rs:=[_,_]) Lh U U U)<|zu (cs:=[.n,.n]) zeroValue227 U U<|fun i7=>zj sizeOf227 U U U U U U .head U<|z2<|zb<|ae<|bd U<|aj j7 U<|aa U<|z2<|zi<|y5 (γ:=Nat) [0,1,7,23,24] (fun k=>[(25,.i k)]) (fun k=>[(i7,.cells 227 [.own i18 n,.own i21 n]),(i21,.grow 1 3 (cI (xH n V k))),(i18,.grow 1 3 (cI (List.replicate n (-1))))]) (fun k=>k≤V.length) (fun k=>V.length - k) 0 aL aE (w2 _) ?_
 rintro k hkl
 refine ae<|ap U U<|z2<|zb<|zn U (fun ck=>?_) (fun ck=>?_)
 ·have hk2:k<V.length:=by simp at ck;omega
  have hb:=hk.lt _ (w3 hk2)
  have hb0:=hk.ord.nn _ (w3 hk2)
  refine zf<|zb<|zi<|ae<|aa U<|z8 (bB k j7 j9 U U U (qx hk2))<|aA jg U<|am U<|am U<|z2<|aW<|z8 (zh Y0 U jh (by decide) U U)<|z8 (zq (c:=.own _ _) jx U ⟨_,.head⟩ U)<|aa U<|aa U<|z8 (yd (j:=V[k].toNat) j7 j9 U U (by omega) ⟨_,.t1⟩ (by rw[aF,rT]) (by omega))<|q5 (j:=V[k].toNat) j9 U U .t1 (by rw[rT];omega)<|z2<|aW<|aC U U<|aa U<|z2 ?_
  exact ⟨k+1,mI,aL,⟨_,(.refl _),by rw[Dm hk2]⟩,hk2,by omega⟩
 ·have hkn:k=V.length:=by simp at ck;omega
  subst hkn
  rw[xI]
  have hatl:(eh n V).length=n:=by rw[←xI];exact rT n V _
  have hatg:∀x:Int,0≤x→x<n→(eh n V)[x.toNat]?=some (gi (eh n V) x):=fun x h1 h2=>gD h1 (by omega)
  refine y4<|ae<|z8 (zh Y0 U jh (by decide) U U)<|z8 (zq (c:=.own _ _) jx U ⟨_,.head⟩ U)<|z8 (yd (j:=0) j7 j9 U U U ⟨_,.t2⟩ (by first|rfl|(simp[aF,aM];done)|(simp[aF,aM];omega)) (by omega))<|q5 (j:=0) j9 U U .t2 (by first|omega|(simp;omega))<|z2<|zb<|ae<|ad U<|z2<|zi<|y5 (γ:=Nat × Bool × List Int) [0,1,7] (fun g=>[(10,.bool g.2.1)]) (fun g=>[(i7,.cells 227 [.own i18 n,.own i21 n]),(i21,.grow 1 3 (cI (eh n V))),(i18,.grow 1 3 (cI g.2.2))]) (fun g=>nN S (gi (eh n V)) V (gi g.2.2) g.1 1∧g.2.2.length=n∧(g.2.1=true→g.1≤V.length)∧(g.2.1=false→g.2.2=cR S n)) (fun g=>(if g.2.1=true then V.length+1 - g.1 else 0)) (0,true,fO n) aL aE (⟨hk.begin,m5 n,fun _=>w2 _,fun h=>by cases h⟩) ?_
  rintro ⟨j,again,l⟩ ⟨hR,hl,hj,hfin⟩
  try dsimp only at *
  refine zb<|ae<|aq U<|z2<|zw U (fun ca=>?_) (fun ca=>?_)
  ·have ca:again=true:=by simpa using ca
   subst ca
   have hj:=hj rfl
   refine zf<|zi<|ae<|ad U<|z2<|ae<|bd U<|z8 (Gv.cutLoM (j:=1) j7 j9 U U U (by omega))<|aj j7 U<|aa U<|z2<|zi<|y5 (γ:=Nat × Bool × List Int) [0,1,7,41,42] (fun g=>[(43,.i g.1),(10,.bool g.2.1)]) (fun g=>[(i7,.cells 227 [.own i18 n,.own i21 n]),(i21,.grow 1 3 (cI (eh n V))),(i18,.grow 1 3 (cI g.2.2))]) (fun g=>g.1≤(V.drop 1).length∧g.2.2=rU (eh n V) (2*V.length) (bj S n) V l g.1∧nN S (gi (eh n V)) V (gi g.2.2) j ((g.1+1:Nat):Int)∧(g.2.1=true→j<V.length)∧(g.2.1=false→g.2.2=l)) (fun g=>(V.drop 1).length - g.1) (0,false,l) b7 aE (⟨w2 _,U,hR,fun h=>(by cases h),fun _=>U⟩) ?_
   rintro ⟨q,ag,l'⟩ ⟨hq,hl',hR',hag,hsame⟩
   try dsimp only at *
   have hl'n:l'.length=n:=by rw[hl',Do,hl]
   refine ae<|ap U U<|z2<|zb<|zn U (fun cq=>?_) (fun cq=>?_)
   ·have hq2:q<(V.drop 1).length:=by simpa using cq
    obtain ⟨b,hb⟩:∃b,(V.drop 1)[q]=b:=⟨_,rfl⟩
    have hbV:V[q+1]?=some b:=by rw[←hb,List.getElem_drop,Nat.add_comm];exact qx (by simp at hq2;omega)
    obtain ⟨hs1,hs2,hs3,hbm,hb0⟩:=hk.step hl'n (Nat.succ_pos q) hbV hR'
    have hblt:=hk.lt b hbm
    have hbnn:=hk.ord.nn b hbm
    have hpr:∀p∈bj S n b,0≤p∧p<n:=fun p hp=>uC hG hp
    have hsucc:=AN (at_:=eh n V) (K:=2*V.length) (preds:=bj S n) (l:=l) hq2
    rw[hb,←hl'] at hsucc
    have hgl:∀x:Int,0≤x→x<n→l'[x.toNat]?=some (gi l' x):=fun x h1 h2=>gD h1 (by omega)
    have hrb:(du f n)[b.toNat]?=some (bj S n b):=by
     have:=hrow b.toNat (by omega)
     rwa [show ((b.toNat:Nat):Int)=b by omega] at this
    obtain ⟨ps,hps⟩:∃ps,bj S n b=ps:=⟨_,rfl⟩
    have hpsl:ps.length≤2*n:=by rw[←hps,←hS];exact iX f b n
    rw[hps] at hpr hrb
    refine zf<|zb<|zi<|ae<|z8 (bB q j7 j9 U U U (by rw[qx hq2,hb])) ?_
    refine aA jg U<|am U<|z2<|ae<|am U<|z2<|zb<|ae<|bd U<|aa U<|z8 (bB b.toNat jy jh U U (by omega) hrb)<|aI jx U<|aj j7 U<|aa U<|z2<|zi<|y5 (γ:=Nat × Int) [0,1,7,10,12,41,42,43,50,51] (fun g=>[(52,.i g.1),(13,.i g.2)]) (fun g=>[(i7,.cells 227 [.own i18 n,.own i21 n]),(i21,.grow 1 3 (cI (eh n V))),(i18,.grow 1 3 (cI l'))]) (fun g=>g.1≤ps.length∧gy (gi l') (gi (eh n V)) (2*V.length) (ps.drop g.1) g.2=gy (gi l') (gi (eh n V)) (2*V.length) ps (-1)∧(g.2=-1∨gi l' g.2≠-1)) (fun g=>ps.length - g.1) (0,-1) b7 aE (⟨w2 _,U,.inl U⟩) ?_
    rintro ⟨m,best⟩ ⟨hm,hbst,hbn⟩
    try dsimp only at *
    refine ae<|ap U U<|z2<|zb<|zn U (fun cm=>?_) (fun cm=>?_)
    ·have hm2:m<ps.length:=by simp at cm;omega
     obtain ⟨p,hp⟩:∃p,ps[m]=p:=⟨_,rfl⟩
     obtain ⟨hp0,hpn⟩:=hpr p (hp▸w3 hm2)
     have hbst:gy (gi l') (gi (eh n V)) (2*V.length) (ps.drop (m+1)) (if gi (eh n V) p=-1∨gi l' p=-1 then best else if best=-1 then p else ee (gi l') (gi (eh n V)) (2*V.length) best p)=gy (gi l') (gi (eh n V)) (2*V.length) ps (-1):=by
      rw[←hbst,List.drop_eq_getElem_cons hm2,AO,hp]
     refine zf<|zb<|zi<|ae<|z8 (bB m j7 j9 U U U (by rw[qx hm2,hp])) ?_
     refine aA jg U<|am U<|z2<|zi<|ae<|z8 (zh Y0 U jh (by decide) U U)<|z8 (zq (c:=.own _ _) jx U ⟨_,.head⟩ U)<|aa U<|z8 (yd (j:=p.toNat) j7 j9 U U (by omega) ⟨_,.t1⟩ (by first|rfl|(simp[aF,aM];done)|(simp[aF,aM];omega)) (by omega))<|z8 (yw (j:=p.toNat) jg U ⟨_,.t1⟩ (hatg p hp0 hpn))<|ao U U<|aq U<|zt (s:=67) U (fun c1=>?_) (fun c1=>?_)
     ·have d1:gi (eh n V) p=-1:=by simpa using c1
      rw[if_pos (.inl d1)] at hbst
      refine z6 U U c1<|z6 U U c1<|z6 U U c1<|z6 U U c1<|z6 U U c1<|z6 U U c1<|au U c1 U<|ad U<|z2<|yr U U<|zf<|aW<|aC U U<|aa U<|z2 ?_
      exact ⟨(m+1,best),iS,b7,aE,⟨hm2,hbst,hbn⟩,by dsimp only;omega⟩
     ·have d1:¬gi (eh n V) p=-1:=by simpa using c1
      refine z7 U U c1<|z8 (zh Y0 U jh (by decide) U U)<|z7 U U c1<|z8 (zq (c:=.own _ _) jx U ⟨_,.head⟩ U)<|z7 U U c1<|aa U<|z7 U U c1<|z8 (yd (j:=p.toNat) j7 j9 U U (by omega) ⟨_,.t2⟩ (by first|rfl|(simp[aF,aM];done)|(simp[aF,aM];omega)) (by omega))<|z7 U U c1<|z8 (yw (j:=p.toNat) jg U ⟨_,.t2⟩ (hgl p hp0 hpn))<|z7 U U c1<|ao U U<|aw U c1 U<|ad U<|z2<|zw U (fun c2=>?_) (fun c2=>?_)
      ·have d2:gi l' p=-1:=by simpa using c2
       rw[if_pos (.inr d2)] at hbst
       refine zf<|aW<|aC U U<|aa U<|z2 ?_
       exact ⟨(m+1,best),iS,b7,aE,⟨hm2,hbst,hbn⟩,by dsimp only;omega⟩
      ·have d2:¬gi l' p=-1:=by simpa using c2
       rw[if_neg (by rintro (h|h);exact d1 h;exact d2 h)] at hbst
       refine ae<|aa U<|ao U U<|ad U<|z2<|zw U (fun c3=>?_) (fun c3=>?_)
       ·have c3:best=-1:=by simpa using c3
        rw[if_pos c3] at hbst
        refine aW<|aa U<|am U<|z2<|aW<|aC U U<|aa U<|z2 ?_
        exact ⟨(m+1,p),iS,b7,aE,⟨hm2,hbst,.inr d2⟩,by dsimp only;omega⟩
       ·have c3:¬best=-1:=by simpa using c3
        rw[if_neg c3] at hbst
        have hbb:gi l' best≠-1:=by rcases hbn with h|h;exact absurd h c3;exact h
        refine aW<|z8 (qu isAgg227 sizeOf227 U ⟨_,.head⟩ U)<|aa U<|aa U<|y3 U (zo (.r (.l (.l (.rest _))))) (Dp hk.ord hR'.inv hK (by omega) hl'n hatl hk.lt hbb d2) ?_
        rintro r59 O59 ⟨rfl,rfl⟩
        refine am U<|z2<|y7 (za (zc .t2))<|aW<|aC U U<|aa U<|z2 ?_
        exact ⟨(m+1,ee (gi l') (gi (eh n V)) (2*V.length) best p),iS,b7,aE,⟨hm2,hbst,.inr (nM hk.ord hR'.inv _ best p hbb d2 (hK best p (hR'.inv.mem _ hbb) (hR'.inv.mem _ d2))).1⟩,by dsimp only;omega⟩
    ·have hmn:m=ps.length:=by simp at cm;omega
     subst hmn
     rw[List.drop_length] at hbst
     have hbst:best=gy (gi l') (gi (eh n V)) (2*V.length) ps (-1):=hbst
     have hst:kl (eh n V) (2*V.length) (bj S n) l' b=l'.set b.toNat best:=by unfold kl;rw[hps,←hbst]
     rw[hst] at hs1 hs2 hsucc
     refine y4<|ae<|z8 (zh Y0 U jh (by decide) U U)<|z8 (zq (c:=.own _ _) jx U ⟨_,.head⟩ U)<|aa U<|z8 (yd (j:=b.toNat) j7 j9 U U (by omega) ⟨_,.t2⟩ (by first|rfl|(simp[aF,aM];done)|(simp[aF,aM];omega)) (by omega))<|z8 (yw (j:=b.toNat) jg U ⟨_,.t2⟩ (hgl b hbnn hblt))<|aa U<|aO U U<|z2<|zw U (fun ce=>?_) (fun ce=>?_)
     ·have ce:¬gi l' b=best:=by simpa using ce
      have hjl:j<V.length:=Classical.byContradiction fun h=>ce (by
       have h2:=hs2 (by omega)
       have h3:=vk (l:=l') hbnn (by omega) best
       rw[h2] at h3
       have h4:=congrFun h3 b
       simpa [j6] using h4)
      refine aW<|z8 (zh Y0 U jh (by decide) U U)<|z8 (zq (c:=.own _ _) jx U ⟨_,.head⟩ U)<|aa U<|aa U<|z8 (yd (j:=b.toNat) j7 j9 U U (by omega) ⟨_,.t2⟩ (by first|rfl|(simp[aF,aM];done)|(simp[aF,aM];omega)) (by omega))<|q5 (j:=b.toNat) j9 U U .t2 (by first|omega|(simp;omega))<|ad U<|z2<|aW<|aC U U<|aa U<|z2 ?_
      exact ⟨(q+1,true,l'.set b.toNat best),mI,b7,aE,⟨hq2,hsucc.symm,hs1,fun _=>hjl,fun h=>by cases h⟩,by dsimp only;omega⟩
     ·have ce:gi l' b=best:=by simpa using ce
      rw[←ce,xb hbnn] at hs1 hsucc
      refine zf<|aW<|aC U U<|aa U<|z2 ?_
      exact ⟨(q+1,ag,l'),mI,b7,aE,⟨hq2,hsucc.symm,hs1,hag,hsame⟩,by dsimp only;omega⟩
   ·have hqn:q=(V.drop 1).length:=by have h0:¬(q:Int)<((V.drop 1).length:Int):=(by simpa using cq);omega
    subst hqn
    rw[Dn] at hl'
    have hR2:nN S (gi (eh n V)) V (gi l') (j+1) 1:=by rw[hl'];exact hk.pass hl hR
    refine y4 ?_
    exact ⟨(j+1,ag,l'),bW,aL,aE,⟨hR2,hl'n,fun h=>by have:=hag h;omega,fun h=>by have e:=hsame h;rw[e] at hl';have:=hk.near_eq hl (hk.fixed hl hR hl'.symm);rw[e,this,hNG]⟩,by dsimp only;rw[if_pos rfl];split<;>omega⟩
  ·have ca:again=false:=by simpa using ca
   have hfin:=hfin ca
   subst hfin
   refine y4<|ae<|z8 (zh Y0 U jh (by decide) U U)<|z8 (zq (c:=.own _ _) jx U ⟨_,.head⟩ U)<|z8 (yd (j:=0) j7 j9 U U U ⟨_,.t2⟩ (by rw[aF,mv]) (by omega))<|q5 (j:=0) j9 U U .t2 (by rw[mv];omega)<|z2<|ae<|z8 (zh Y0 U jh (by decide) U U)<|z8 (zq (c:=.own _ _) jx U ⟨_,.head⟩ U)<|z8 (ei U)<|z2<|y7 (qf .head)<|y7 (qf .head)<|zg<|zm (x:=.own _ _) U ?_
   exact ⟨i18,rfl,rfl⟩
end
section
open Go.Proofs.Tryz
section
variable {E:World} {P:Program} {env:aT} {O O' O'':OL}
theorem aR.knowIC {j off i m:Nat} {T T':TypeId} {cs:List AV} {l:List Int} (hO:dH O i (.grow 1 T (cI l)) O') (hP:fF O' j (.cells T' cs) (.cells T' (cs.set off (.fro 1 (l.map fun x=>[.int .i64 x])))) O'') (hc:cs[off]?=some (.own i m)) (hm:l.length=m):aR E env O env O'':=
 aR.knowC (rows:=l.map fun x=>[.int .i64 x]) (by rw[kJ];exact hO) hP hc (fun r hr=>by obtain ⟨_,_,rfl⟩:=List.mem_map.1 hr;rfl) (by decide) (by rw[w6];exact hm)
theorem aR.knowBC {j off i m:Nat} {T T':TypeId} {cs:List AV} {l:List Bool} (hO:dH O i (.grow 1 T (cB l)) O') (hP:fF O' j (.cells T' cs) (.cells T' (cs.set off (.fro 1 (l.map fun x=>[.bool x])))) O'') (hc:cs[off]?=some (.own i m)) (hm:l.length=m):aR E env O env O'':=
 aR.knowC (rows:=l.map fun x=>[.bool x]) (by rw[BM];exact hO) hP hc (fun r hr=>by obtain ⟨_,_,rfl⟩:=List.mem_map.1 hr;rfl) (by decide) (by rw[w6];exact hm)
theorem aR.nestBackN {α:Type} {c:fh α} {b j m i n:Nat} {T e:TypeId} {rows:List (List α)} {r:List α} (hn:r.length=n) (hP:dH O i (.grow c.k e (c.av r)) O') (hO:fF O' m (BN c T e b rows j n i) (dK c T e b (rows.set j r)) O''):aR E env O env O'':=by subst hn;exact aR.nestBack hP hO
theorem bn.weak {f:FuncId} {args:List AV} {R:AV→OL→Prop} {y:AV} (h:bn P E f args [] R) (hr:∀x O,R x O→O=[]∧∀I v,cC I x v→cC I y v):aP P E f args y:=fun I F w vs h1 h2=>
 (h I F w vs h1 h2).mono fun v w' ⟨J,x,O',a,b,c,d⟩=>by
  obtain ⟨e,hv⟩:=hr x O' d
  subst e
  exact ⟨J,y,[],a,hv _ _ b,c,rfl⟩
theorem pQ {tp te:TypeId} {j:TypeInfo} (a:Addr) (hp:P.underlying tp=some (.pointer te)) (hte:P.info? te=some j) (w:World) :
  (binOp .neq tp (.pointer (some a)) (.pointer none)).run P w=.ok (.bool true) w:=by
 have h:∀d:Nat,(Op.equalIn (d+1) tp (.pointer (some a)) (.pointer none)).run P w=.ok false w:=fun d=>by
  simp[Op.equalIn,run_underlying hp,sizeOf,typeInfo,hte]
 simp only[binOp]
 simp[Op.equal,Op.maxDepth,h 9999]
variable {d ty:Nat} {pos:String} {af:Array Edge} {x y z:Operand} {t u e T:TypeId}
theorem Gv.neqPf {cs:List AV} {j:TypeInfo} (hp:P.underlying t=some (.pointer e)) (hte:P.info? e=some j) (hx:bc env x=.pf cs):Gv P env O (Oper.mk (some d) (.binOp .neq t x (.const (.pointer none)) u) ty pos af none) (.bool true):=Gv.ofEv fun I ρ h=>by
 have h1:=h.ev x
 rw[hx] at h1
 obtain ⟨b,off,vs,e1,_⟩:=h1
 exact ⟨_,rfl,fun w=>by
  have e2:Go.Proofs.YtbbonnfjealmpaaGreatDoor.ev ρ (.const (.pointer none))=.pointer none:=rfl
  simp only[execOp,e1,e2];simp[eqGuard,pQ _ hp hte]⟩
end
end
section
open Go.Proofs.Tryz
open Go.Proofs
variable {E:World}
set_option maxRecDepth 20000
theorem xJ (xs:List Int) (v:Int) (i:Nat) (T:TypeId) (hl:xs.length≤281474976710656):bn prog E 204 [.own i xs.length,.int .i64 v] [(i,.grow 1 T (cI xs))] fun r O=>r=.int .i64 (cS (fun x=>decide (v=x)) xs 0)∧O=[(i,.grow 1 T (cI xs))]:=by
 refine zp func204 U (by decide) U<|ae<|am U<|z2<|zb<|ae<|bL U<|z8 (qp j7 U)<|aa U<|z2<|zi<|y5 (γ:=Nat) [0,1,7] (fun k=>[(8,.i k)]) (fun k=>[(i,.grow 1 T (cI xs))]) (fun k=>k≤xs.length∧(xs.take k).all (fun x=>!decide (v=x))) (fun k=>xs.length - k) 0 aL aE (⟨w2 _,U⟩) ?_
 rintro k ⟨hk,hall⟩
 refine ae<|ap U U<|z2<|zb<|zn U (fun ck=>?_) (fun ck=>?_)
 ·have hk2:k<xs.length:=by simp at ck;omega
  refine zf<|zb<|zi<|ae<|aa U<|am U<|z2<|ae<|aa U<|bL U<|aa U<|z8 (yd (j:=k) j7 j9 U U U ⟨_,.head⟩ (by first|rfl|(simp[aF,aM];done)|(simp[aF,aM];omega)) hk2)<|z8 (yw (j:=k) jg U ⟨_,.head⟩ (qx hk2))<|ao U U<|z2<|zw U (fun cp=>?_) (fun cp=>?_)
  ·refine ae<|aa U<|am U<|z2<|zg<|zm (x:=.int _ _) U ?_
   exact ⟨by rw[bZ _ xs k hk hall,List.drop_eq_getElem_cons hk2,cS,if_pos (by simpa using cp)],rfl⟩
  ·refine zf<|aW<|aC U U<|aa U<|z2 ?_
   exact ⟨k+1,bW,aL,aE,⟨hk2,by rw[qy hk2,List.all_append,hall];simpa using cp⟩,by omega⟩
 ·have hkn:k=xs.length:=by simp at ck;omega
  refine y4<|ae<|am U<|z2<|zg<|zm (x:=.int _ _) U ?_
  exact ⟨by rw[bZ _ xs k hk hall,hkn,List.drop_length,cS],rfl⟩
theorem rV (xs:List Int) (v:Int) (i:Nat) (T:TypeId) (hl:xs.length≤281474976710656):bn prog E 166 [.own i xs.length,.int .i64 v] [(i,.grow 1 T (cI xs))] fun r O=>r=.bool (xs.contains v)∧O=[(i,.grow 1 T (cI xs))]:=by
 refine zp func166 U (by decide) U<|ae<|ad U<|z2<|ae<|bL U<|aa U<|y3 U (zo (.l (.rest _))) (xJ xs v i T hl) ?_
 rintro r7 O7 ⟨rfl,rfl⟩
 refine z8 (q9 U U)<|ad U<|z2<|zg<|zm (x:=.bool _) U ?_
 exact ⟨by rw[fX];congr 1;rw[w8];simp,rfl⟩
theorem rW (xs:List Int) (v:Int) (i:Nat) (T:TypeId) (hl:xs.length≤281474976710656):bn prog E 166 [.own i xs.length,.int .i64 v] [(i,.grow eI.k T (eI.av xs))] fun r O=>r=.bool (xs.contains v)∧O=[(i,.grow eI.k T (eI.av xs))]:=by rw[ED];exact rV xs v i T hl
theorem Dq (l:List Int) (i:Nat) (T:TypeId) (hl:l.length≤200000):bn prog E 167 [.own i l.length] [(i,.grow eI.k T (eI.av l))] fun r O=>r=.tup []∧O=[(i,.grow eI.k T (eI.av (lk l)))]:=by rw[ED,ED];exact xk l i T hl
def v6 (n:Nat) (rows:List (List Int)):Prop:=rows.length=n∧∀r∈rows,r.Nodup∧∀x∈r,0≤x∧x<n
theorem v6.len {n:Nat} {rows:List (List Int)} (h:v6 n rows) {r:List Int} (hr:r∈rows):r.length≤n:=by
 have:=mw r (aY n) (h.2 r hr).1 fun x hx=>dB.2 ((h.2 r hr).2 x hx)
 rwa [bR] at this
theorem v6.push {n:Nat} {rows:List (List Int)} (h:v6 n rows) {j:Nat} (hj:j<rows.length) {b:Int} (h0:0≤b) (hb:b<n) (hn:b ∉ rows[j]):v6 n (rows.set j (rows[j]++[b])):=by
 refine ⟨by rw[List.length_set];exact h.1,fun r hr=>?_⟩
 rcases List.mem_or_eq_of_mem_set hr with hr|rfl
 ·exact h.2 r hr
 ·obtain ⟨g1,g2⟩:=h.2 _ (w3 hj)
  refine ⟨List.nodup_append.2 ⟨g1,by simp,fun x hx y hy e=>?_⟩,fun x hx=>?_⟩
  ·simp at hy;subst hy;subst e;exact hn hx
  ·rcases List.mem_append.1 hx with hx|hx
   ·exact g2 x hx
   ·simp at hx;subst hx;exact ⟨h0,hb⟩
theorem v6.sort {n:Nat} {rows:List (List Int)} (h:v6 n rows) {j:Nat} (hj:j<rows.length):v6 n (rows.set j (lk rows[j])):=by
 refine ⟨by rw[List.length_set];exact h.1,fun r hr=>?_⟩
 rcases List.mem_or_eq_of_mem_set hr with hr|rfl
 ·exact h.2 r hr
 ·obtain ⟨g1,g2⟩:=h.2 _ (w3 hj)
  exact ⟨(fj _).nodup_iff.2 g1,fun x hx=>g2 x ((fj _).mem_iff.1 hx)⟩
theorem v6.begin (n:Nat):v6 n (List.replicate n []):=⟨by simp,fun r hr=>by rw[List.eq_of_mem_replicate hr];exact ⟨by simp,fun x hx=>by cases hx⟩⟩
section
variable {S:Int→List Int} {n:Nat} (hG:fP S n)
include hG
theorem xK {c p:Int} (hc:c∈aH S n) (hp:p∈aH S n) (he:c∈S p):c=0∨iN (gi (cR S n)) p (gi (cR S n) c):=by
 by_cases h0:c=0
 ·exact .inl h0
 ·right
  have hX:=hG.exact
  have hO:=hG.gok.ord
  have hb:=hX.has c hc
  obtain ⟨g1,g2,g3⟩:=hX.inv.near c h0 hb
  have hd:gC S (gi (cR S n) c) c:=(hX.anc c _ hc).1 (.up h0 hb (.refl _))
  exact (hX.anc p _ hp).2 (hd.pred ((hO.mem p).1 hp) he (fun e=>by rw[e] at g3;omega))
theorem AP {c y:Int} (hc:c∈aH S n) (hy:(y∈aH S n∧(c=0∨iN (gi (cR S n)) y (gi (cR S n) c)))∨(c=0∧y=-1)) (hne:y≠gi (bv S n) c) :
  y∈aH S n∧((gi (bv S n) y∈aH S n∧(c=0∨iN (gi (cR S n)) (gi (bv S n) y) (gi (cR S n) c)))∨(c=0∧gi (bv S n) y=-1))∧0<(gi (b9 S n) y+1).toNat∧(gi (b9 S n) (gi (bv S n) y)+1).toNat<(gi (b9 S n) y+1).toNat:=by
 have hO:=hG.gok.ord
 have hpos:=hG.npos
 have hyV:y∈aH S n:=by
  rcases hy with h|⟨h1,h2⟩
  ·exact h.1
  ·exact absurd (by rw[h2,h1,vz hpos]) hne
 have hl:=hG.lev_nn hyV
 have hy0:=hO.nn y hyV
 refine ⟨hyV,?_⟩
 by_cases h0:y=0
 ·subst h0
  rw[vz hpos]
  have hc0:c=0:=by
   rcases hy with ⟨_,h|h⟩|h
   ·exact h
   ·rcases h.cases' with e|⟨e,_⟩
    ·by_cases hc0:c=0
     ·exact hc0
     ·have:=hO.nn c hc
      exact absurd (by rw[gJ this hc0,←e]) hne
    ·exact absurd rfl e
   ·exact h.1
  have hm:gi (b9 S n) (-1)=-1:=Ay (.inl (by omega))
  exact ⟨.inr ⟨hc0,rfl⟩,by omega,by rw[hm];omega⟩
 ·rw[gJ hy0 h0]
  obtain ⟨g1,g2⟩:=hG.near_mem hyV h0
  have g3:=hG.lev_near hyV h0
  have g4:=hG.lev_nn g1
  refine ⟨.inl ⟨g1,?_⟩,by omega,by omega⟩
  rcases hy with ⟨_,h|h⟩|h
  ·exact .inl h
  ·rcases h.cases' with e|⟨_,_,h3⟩
   ·by_cases hc0:c=0
    ·exact .inl hc0
    ·have:=hO.nn c hc
     exact absurd (by rw[gJ this hc0,e]) hne
   ·exact .inr h3
  ·exact .inl h.1
end
theorem xL (f:ab) (hE:cg f) (hn:f.blocks.length≤1000) (t a b fb:Nat) (T:TypeId) (x:AV) (rows:List (List Int)) (hF:v6 f.blocks.length rows) :
  bn prog E 117 [.po t 0,.fro 1 ((aH (ah f) f.blocks.length).map bO),pM eI (du f f.blocks.length)]
   [(0,dK eI 23 3 fb rows),(t,.cells 193 [.own a f.blocks.length,.own b f.blocks.length,x,eM fb f.blocks.length]),(b,.grow 1 3 (cI (b9 (ah f) f.blocks.length))),(a,.grow 1 3 (cI (bv (ah f) f.blocks.length)))]
   fun r O=>r=.tup []∧∃rows',v6 f.blocks.length rows'∧O=[(0,dK eI 23 3 fb rows'),(t,.cells 193 [.own a f.blocks.length,.own b f.blocks.length,x,eM fb f.blocks.length]),(b,.grow 1 3 (cI (b9 (ah f) f.blocks.length))),(a,.grow 1 3 (cI (bv (ah f) f.blocks.length)))]:=by
 have hG:=hE.grph
 have hpos:=hG.npos
 have hol:=fZ hG
 have hrowP:∀k,k<f.blocks.length→(du f f.blocks.length)[k]?=some (bj (ah f) f.blocks.length (k:Int)):=fun k h=>ni f h
 have hpl:∀b,(bj (ah f) f.blocks.length b).length≤2*f.blocks.length:=fun b=>iX f b _
 obtain ⟨n,hnn⟩:∃n,f.blocks.length=n:=⟨_,rfl⟩
 obtain ⟨S,hS⟩:∃S,ah f=S:=⟨_,rfl⟩
 rw[hnn] at hG hpos hol hn hrowP hpl hF ⊢
 rw[hS] at hG hol hrowP hpl ⊢
 obtain ⟨V,hVe⟩:∃V,aH S n=V:=⟨_,rfl⟩
 have hVr:∀y∈V,0≤y∧y<n:=fun y hy=>cQ hG.toEOk (hVe▸hy)
 have hX:=hG.exact
 have hO:=hG.gok.ord
 have hlev:=hG.lev
 rw[hVe] at hX hO hol ⊢
 have hLl:(b9 S n).length=n:=hlev.len
 have hRl:(bv S n).length=n:=f5 S n
 have hLg:∀y:Int,0≤y→y<n→(b9 S n)[y.toNat]?=some (gi (b9 S n) y):=fun y h1 h2=>gD h1 (by omega)
 have hNg:∀y:Int,0≤y→y<n→(bv S n)[y.toNat]?=some (gi (bv S n) y):=fun y h1 h2=>gD h1 (by rw[f5];omega)
 refine zp func117 U (by decide) U<|zb<|ae<|bd U<|aj j7 U<|aa U<|z2<|zi<|y5 (γ:=Nat × List (List Int)) [0,2,12,13] (fun g=>[(14,.i g.1)]) (fun g=>[(0,dK eI 23 3 fb g.2),(t,.cells 193 [.own a n,.own b n,x,eM fb n]),(b,.grow 1 3 (cI (b9 S n))),(a,.grow 1 3 (cI (bv S n)))]) (fun g=>g.1≤V.length∧v6 n g.2) (fun g=>V.length - g.1) (0,rows) aL aE (⟨w2 _,hF⟩) ?_
 rintro ⟨k,rows⟩ ⟨hk,hF⟩
 try dsimp only at *
 refine ae<|ap U U<|z2<|zb<|zn U (fun ck=>?_) (fun ck=>?_)
 ·have hk2:k<V.length:=by simp at ck;omega
  obtain ⟨c,hc⟩:∃c,V[k]=c:=⟨_,rfl⟩
  have hcV:c∈V:=hc▸w3 hk2
  obtain ⟨hc0,hcn⟩:=hVr c hcV
  have hrow:(du f n)[c.toNat]?=some (bj S n c):=by
   have:=hrowP c.toNat (by omega)
   rwa [show ((c.toNat:Nat):Int)=c by omega] at this
  have hpc:=hpl c
  have hpr:∀p∈bj S n c,0≤p∧p<n:=fun p hp=>uC hG hp
  have hpS:∀p∈bj S n c,c∈S p:=fun p hp=>(hG.gok.preds c (by rw[hVe];exact hcV) p).1 hp
  obtain ⟨ps,hps⟩:∃ps,bj S n c=ps:=⟨_,rfl⟩
  rw[hps] at hrow hpc hpr hpS
  refine zf<|zb<|zi<|ae<|z8 (bB k j7 j9 U U U (by rw[qx hk2,hc])) ?_
  refine aA jg U<|am U<|z2<|ae<|bd U<|aa U<|z8 (bB c.toNat jy jh U U (by omega) hrow)<|aI jx U<|aj j7 U<|aa U<|z2<|zi<|y5 (γ:=Nat × List (List Int)) [0,2,7,12,13,14,21,22] (fun g=>[(23,.i g.1)]) (fun g=>[(0,dK eI 23 3 fb g.2),(t,.cells 193 [.own a n,.own b n,x,eM fb n]),(b,.grow 1 3 (cI (b9 S n))),(a,.grow 1 3 (cI (bv S n)))]) (fun g=>g.1≤ps.length∧v6 n g.2) (fun g=>ps.length - g.1) (0,rows) aL aE (⟨w2 _,hF⟩) ?_
  rintro ⟨j,rows⟩ ⟨hj,hF⟩
  try dsimp only at *
  refine ae<|ap U U<|z2<|zb<|zn U (fun cj=>?_) (fun cj=>?_)
  ·have hj2:j<ps.length:=by simp at cj;omega
   obtain ⟨p,hp⟩:∃p,ps[j]=p:=⟨_,rfl⟩
   obtain ⟨hp0,hpn⟩:=hpr p (hp▸w3 hj2)
   have hpc2:=hpS p (hp▸w3 hj2)
   refine zf<|zb<|zi<|ae<|z8 (bB j j7 j9 U U U (by rw[qx hj2,hp])) ?_
   refine aA jg U<|am U<|z2<|zb<|ae<|bb U<|ax U<|z8 (zh Zi U jh (by decide) U U)<|z8 (zq (c:=.own _ _) jx U ⟨_,.t1⟩ U)<|aa U<|z8 (yd (j:=p.toNat) j7 j9 U U (by omega) ⟨_,.t2⟩ (by first|rfl|(simp[aF,aM];done)|(simp[aF,aM];omega)) (by omega))<|z8 (yw (j:=p.toNat) jg U ⟨_,.t2⟩ (hLg p hp0 hpn))<|ao U U<|z2<|zw U (fun cl=>?_) (fun cl=>?_)
   ·refine y4<|aW<|aC U U<|aa U<|z2 ?_
    exact ⟨(j+1,rows),tk,aL,aE,⟨hj2,hF⟩,by dsimp only;omega⟩
   ·have hpV:p∈V:=by have h0:¬gi (b9 S n) p=-1:=(by simpa using cl);rw[←hVe];exact (hG.lev_mem p).1 h0
    refine zf<|ae<|aa U<|am U<|z2<|zi<|y5 (γ:=Int × List (List Int)) [0,2,7,12,13,14,21,22,23] (fun g=>[(10,.i g.1)]) (fun g=>[(0,dK eI 23 3 fb g.2),(t,.cells 193 [.own a n,.own b n,x,eM fb n]),(b,.grow 1 3 (cI (b9 S n))),(a,.grow 1 3 (cI (bv S n)))]) (fun g=>((g.1∈V∧(c=0∨iN (gi (cR S n)) g.1 (gi (cR S n) c)))∨(c=0∧g.1=-1))∧v6 n g.2) (fun g=>(gi (b9 S n) g.1+1).toNat) (p,rows) aL aE (⟨.inl ⟨hpV,xK hG (by rw[hVe];exact hcV) (by rw[hVe];exact hpV) hpc2⟩,hF⟩) ?_
    rintro ⟨y,rows⟩ ⟨hy,hF⟩
    try dsimp only at *
    refine zb<|ae<|aa U<|bb U<|ax U<|z8 (zh Zi U jh (by decide) U U)<|z8 (zq (c:=.own _ _) jx U ⟨_,.t1⟩ U)<|aa U<|z8 (yd (j:=c.toNat) j7 j9 U U (by omega) ⟨_,.t3⟩ (by first|rfl|(simp[aF,aM];done)|(simp[aF,aM];omega)) (by omega))<|z8 (yw (j:=c.toNat) jg U ⟨_,.t3⟩ (hNg c hc0 hcn))<|aO U U<|z2<|zw U (fun cy=>?_) (fun cy=>?_)
    ·have hne:y≠gi (bv S n) c:=by simpa using cy
     obtain ⟨hyV,hnx,hms⟩:=AP hG (hVe▸hcV) (by rw[hVe];exact hy) hne
     rw[hVe] at hyV hnx
     obtain ⟨hy0,hyn⟩:=hVr y hyV
     have hyl:y.toNat<rows.length:=by rw[hF.1];omega
     have hrl:=hF.len (w3 hyl)
     refine zf<|zb<|zi<|ae<|bb U<|ax U<|z8 (zh Zi U sizeOf74 (by decide) U U)<|z8 (zq (c:=eM _ _) isAgg74 U ⟨_,.t1⟩ U)<|aa U<|z8 (qq (j:=y.toNat) jy jh U U (by omega) (by omega))<|qi (j:=y.toNat) (r:=rows[y.toNat]) jx U (qx hyl) (fun _=>.head)<|fun i58=>aa U<|y3 U (zo (.l (.r (.r (.r (.r (.rest _))))))) (rW rows[y.toNat] c i58 _ (by omega)) ?_
     rintro r60 O60 ⟨rfl,rfl⟩
     refine aJ U<|zd (aR.nestBack (r:=rows[y.toNat]) .head .head) ?_
     rw[List.set_getElem_self]
     refine z2<|zw U (fun cin=>?_) (fun cin=>?_)
     ·have hnin:c ∉ rows[y.toNat]:=by simpa using cin
      refine yb (γ:=Unit) [0,2,7,10,12,13,14,21,22,23] (fun u=>[]) (fun u=>[(t,.cells 193 [.own a n,.own b n,x,eM fb n]),(b,.grow 1 3 (cI (b9 S n))),(a,.grow 1 3 (cI (bv S n))),(0,dK eI 23 3 fb (rows.set y.toNat (rows[y.toNat]++[c])))]) (fun u=>True) ?_ (fun _ _ h=>h) ?_
      ·refine zr (fun j=>Nat.beq j 16) (by kernel_rfl) U (zo (.l (.r (.r (.r (.rest _))))))<|ai 0 U (dR U)<|ai 1 U (zy U)<|ai 2 U (zh Zi U sizeOf74 (by decide) U U)<|ai 3 U (zq (c:=eM _ _) isAgg74 U ⟨_,.head⟩ U)<|ai 4 U (dx U)<|ai 5 U (dR U)<|ai 6 U (zy U)<|ai 7 U (zh Zi U sizeOf74 (by decide) U U)<|ai 8 U (zq (c:=eM _ _) isAgg74 U ⟨_,.head⟩ U)<|ai 9 U (dx U)<|ai 10 U (qq (j:=y.toNat) jy jh U U (by omega) (by omega))<|ai 12 U (dx U)<|yj (i:=11) (j:=13) U U (by kernel_rfl) ?_ ?_
       ·refine qi (j:=y.toNat) (r:=rows[y.toNat]) jx U (qx hyl) (fun _=>.head)<|fun i73=>z2<|aN 13 U<|zx (rows:=[[_]]) cA U U U U U<|z2<|aN 14 U<|yg (k:=1) j7 Y5 U U U U U (fun _=>.head) (by rw[eI.av_len];rfl) (by decide) U (by show (_+1)*8≤_;omega) (by show _+1≤_;omega)<|fun i76=>z2<|ai 15 U (qq (j:=y.toNat) jy jh U U (by omega) (by omega))<|yc<|yk (i:=16) U (by kernel_rfl) (by kernel_rfl)<|qr (j:=y.toNat) (r:=rows[y.toNat]++[c]) jh U U (by omega) .t3 .t3 U (eI.av_push _ _) (by simp)<|z2<|yf (by kernel_rfl) ?_
        exact ⟨(),iS,trivial,aE,trivial⟩
       ·refine zx (rows:=[[_]]) cA U U U U U<|z2<|aN 11 U<|qi (j:=y.toNat) (r:=rows[y.toNat]) jx U (qx hyl) (fun _=>.head)<|fun i73=>z2<|aN 14 U<|yg (k:=1) j7 Y5 U U U U U (fun _=>.head) (by rw[eI.av_len];rfl) (by decide) U (by show (_+1)*8≤_;omega) (by show _+1≤_;omega)<|fun i76=>z2<|ai 15 U (qq (j:=y.toNat) jy jh U U (by omega) (by omega))<|yc<|yk (i:=16) U (by kernel_rfl) (by kernel_rfl)<|qr (j:=y.toNat) (r:=rows[y.toNat]++[c]) jh U U (by omega) .t3 .t3 U (eI.av_push _ _) (by simp)<|z2<|yf (by kernel_rfl) ?_
        exact ⟨(),iS,trivial,aE,trivial⟩
      ·rintro _ _
       refine y7 (za (zc .t3))<|aW<|bb U<|ax U<|z8 (zh Zi U jh (by decide) U U)<|z8 (zq (c:=.own _ _) jx U ⟨_,.t1⟩ U)<|aa U<|z8 (yd (j:=y.toNat) j7 j9 U U (by omega) ⟨_,.t3⟩ (by first|rfl|(simp[aF,aM];done)|(simp[aF,aM];omega)) (by omega))<|z8 (yw (j:=y.toNat) jg U ⟨_,.t3⟩ (hNg y hy0 hyn))<|am U<|z2 ?_
       exact ⟨(gi (bv S n) y,rows.set y.toNat (rows[y.toNat]++[c])),pI,aL,aE,⟨hnx,hF.push hyl hc0 hcn hnin⟩,by dsimp only;omega⟩
     ·refine zf<|aW<|bb U<|ax U<|z8 (zh Zi U jh (by decide) U U)<|z8 (zq (c:=.own _ _) jx U ⟨_,.t1⟩ U)<|aa U<|z8 (yd (j:=y.toNat) j7 j9 U U (by omega) ⟨_,.t3⟩ (by first|rfl|(simp[aF,aM];done)|(simp[aF,aM];omega)) (by omega))<|z8 (yw (j:=y.toNat) jg U ⟨_,.t3⟩ (hNg y hy0 hyn))<|am U<|z2 ?_
      exact ⟨(gi (bv S n) y,rows),pI,aL,aE,⟨hnx,hF⟩,by dsimp only;omega⟩
    ·refine y4<|aW<|aC U U<|aa U<|z2 ?_
     exact ⟨(j+1,rows),tk,aL,aE,⟨hj2,hF⟩,by dsimp only;omega⟩
  ·refine y4<|aW<|aC U U<|aa U<|z2 ?_
   exact ⟨(k+1,rows),fC,aL,aE,⟨hk2,hF⟩,by dsimp only;omega⟩
 ·refine y4<|ae<|bb U<|ax U<|z8 (zh Zi U sizeOf74 (by decide) U U)<|z8 (zq (c:=eM _ _) isAgg74 U ⟨_,.t1⟩ U)<|z8 (Gv.lenN jy U)<|aa U<|z2<|zi<|y5 (γ:=Nat × List (List Int)) [0,84] (fun g=>[(85,.i g.1)]) (fun g=>[(0,dK eI 23 3 fb g.2),(t,.cells 193 [.own a n,.own b n,x,eM fb n]),(b,.grow 1 3 (cI (b9 S n))),(a,.grow 1 3 (cI (bv S n)))]) (fun g=>g.1≤n∧v6 n g.2) (fun g=>n - g.1) (0,rows) aL aE (⟨w2 _,hF⟩) ?_
  rintro ⟨m,rows⟩ ⟨hm,hF⟩
  try dsimp only at *
  refine ae<|ap U U<|z2<|zb<|zn U (fun cm=>?_) (fun cm=>?_)
  ·have hm2:m<n:=by simp at cm;omega
   have hml:m<rows.length:=by rw[hF.1];omega
   have hrl:=hF.len (w3 hml)
   refine zf<|zb<|zi<|ae<|aa U<|am U<|z2<|aW<|bb U<|ax U<|z8 (zh Zi U sizeOf74 (by decide) U U)<|z8 (zq (c:=eM _ _) isAgg74 U ⟨_,.t1⟩ U)<|aa U<|z8 (qq (j:=m) jy jh U U U (by omega))<|qi (j:=m) (r:=rows[m]) jx U (qx hml) (fun _=>.head)<|fun i94=>y3 U (zo (.l (.r (.r (.r (.r (.rest _))))))) (Dq rows[m] i94 _ (by omega)) ?_
   rintro r95 O95 ⟨rfl,rfl⟩
   refine z2<|y7 (aR.nestBackN (r:=lk rows[m]) (fj _).length_eq .head .head)<|aW<|aC U U<|aa U<|z2 ?_
   exact ⟨(m+1,rows.set m (lk rows[m])),b7,aL,aE,⟨hm2,hF.sort hml⟩,by dsimp only;omega⟩
  ·refine y4<|yy ?_
   exact ⟨rfl,rows,hF,rfl⟩
end
end Go.Proofs.YtbbonnfjealmpaaGreatDoor
