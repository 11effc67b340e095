/- Who makes each variable; whether each is made once. Of programs that are little. -/
import Derived.Test.YtbbonnfjealmpaaGreatDoorZXc
import Derived.Test.YtbbonnfjealmpaaGreatDoorZXd
import Derived.LaidEqlPtr
set_option linter.unusedVariables false
set_option linter.unusedSimpArgs false
set_option linter.unusedSectionVars false
namespace Go.Proofs.YtbbonnfjealmpaaGreatDoor
section
open Go.Proofs.Tryz
def pu (l:List Bool) (bs:List Int):List Bool:=bs.foldl (fun l b=>l.set b.toNat true) l
theorem ln:∀(bs:List Int) (l:List Bool),(pu l bs).length=l.length
 |[],_=>rfl
 |b::bs,l=>by show (pu (l.set b.toNat true) bs).length=_;rw[ln bs,List.length_set]
theorem CQ (l:List Bool) (bs:List Int) (b:Int):pu l (bs++[b])=(pu l bs).set b.toNat true:=by unfold pu;rw[List.foldl_append];rfl
theorem wD (k:Nat):∀(bs:List Int) (l:List Bool),(∀b∈bs,0≤b)→k<l.length→(pu l bs)[k]?=some (decide ((k:Int)∈bs)||(l[k]?).getD false)
 |[],l,_,hk=>by show l[k]?=_;rw[qt hk];simp
 |b::bs,l,h,hk=>by
  show (pu (l.set b.toNat true) bs)[k]?=_;rw[wD k bs _ (fun c hc=>h c (.tail _ hc)) (by rw[List.length_set];exact hk),List.getElem?_set];have h0:=h b (.head _)
  by_cases e:b.toNat=k
  ·have:(k:Int)=b:=by omega
   rw[if_pos e,if_pos (by omega),this];simp
  have:¬(k:Int)=b:=by omega
  rw[if_neg e];simp[this]
def ik (E:Int→List Int) (n:Nat):List Bool:=pu (List.replicate n false) (aI E n)
theorem tK (E:Int→List Int) (n:Nat):(ik E n).length=n:=by unfold ik;rw[ln];simp
theorem tL {E:Int→List Int} {n:Nat} (hE:EOk E n) {k:Nat} (hk:k<n):(ik E n)[k]?=some (decide ((k:Int)∈aI E n)):=by
 unfold ik;rw[wD k _ _ (fun b hb=>(da hE hb).1) (by simp;exact hk)];simp[hk]
theorem oB {f:ab} (hE:cK f):(ik (aj f) f.q.length).contains false=false↔Hz f:=by
 have hG:=hE.grph.toEOk
 constructor
 ·intro h i hi;have hg:=tL hG hi;apply (b9 hG _).1;apply Classical.byContradiction;intro hn;rw[wb hn] at hg;have:=w5 hg;rw[Bool.eq_false_iff] at h;exact h (by simpa using this)
 intro h;rw[Bool.eq_false_iff];intro hc;have hc:false∈ik (aj f) f.q.length:=by simpa using hc
 obtain ⟨k,hk,e⟩:=List.getElem_of_mem hc;have hk2:=hk;rw[tK] at hk2;have hg:=tL hG hk2;rw[qt hk,e] at hg;have hm:=(b9 hG (k:Int)).2 (h k hk2);rw[wa hm] at hg;cases hg
def J6 (f:ab) (i:Nat) (p:dh):Bool:=decide (mo p.w=bm (aj f) f.q.length i)
def HP (f:ab) (i:Nat):Bool:=((f.q[i]?).map fun b=>b.p.all (J6 f i)).getD true
def dO (f:ab):Bool:=(List.range f.q.length).all (HP f)
theorem nE {f:ab} {i:Nat} {b:aF} (h:f.q[i]?=some b):HP f i=b.p.all (J6 f i):=by unfold HP;rw[h];rfl
theorem Aq (f:ab):dO f=true↔Hy f:=by
 unfold dO Hy;rw[wd]
 constructor
 ·intro h i hi p hp;have:=h i (List.mem_range.2 hi);rw[nE (qt hi),wd] at this;exact qF.1 (by simpa [J6] using this p hp)
 intro h i hi;have hi:=List.mem_range.1 hi;rw[nE (qt hi),wd];intro p hp
 simpa [J6] using qF.2 (h i hi p hp)
theorem du {p:Nat→Bool} {k:Nat} (h:(List.range k).all p=true) (hk:p k=true):(List.range (k+1)).all p=true:=by rw[List.range_succ,List.all_append,h];simp[hk]
theorem eG {p:Nat→Bool} {k n:Nat} (hk:k<n) (h:p k=false):(List.range n).all p=false:=by
 rw[Bool.eq_false_iff];intro ha;have:=List.all_eq_true.1 ha k (List.mem_range.2 hk);rw[h] at this;cases this
def cZ {α:Type} (n:Nat) (ev:List (Int × α)):List (List α):=(List.range n).map fun (v:Nat)=>(ev.filter fun e=>decide (e.1=(v:Int))).map (·.2)
theorem dv {α:Type} (n:Nat) (ev:List (Int × α)):(cZ n ev).length=n:=by unfold cZ;simp
theorem gy {α:Type} {n:Nat} (ev:List (Int × α)) {v:Nat} (h:v<n):(cZ n ev)[v]?=some ((ev.filter fun e=>decide (e.1=(v:Int))).map (·.2)):=by unfold cZ;rw[w3,List.getElem?_range h];rfl
theorem tM {α:Type} (n:Nat):List.replicate n []=cZ (α:=α) n []:=by
 apply List.ext_getElem
 ·rw[dv];simp
 intro i h1 h2;unfold cZ;simp
theorem lX {α:Type} {n:Nat} {ev:List (Int × α)} {v:Nat} (h:v<(cZ n ev).length):(cZ n ev)[v].length≤ev.length:=by
 have h2:v<n:=by rwa [dv] at h
 have:=gy ev h2;rw[qt h] at this;rw[Option.some.inj this,w2];exact List.length_filter_le _ _
theorem m1 {α:Type} {n:Nat} {ev:List (Int × α)} {c:Int} {x:α} (h0:0≤c) (h:c.toNat<(cZ n ev).length):(cZ n ev).set c.toNat ((cZ n ev)[c.toNat]++[x])=cZ n (ev++[(c,x)]):=by
 have h2:c.toNat<n:=by rwa [dv] at h
 apply List.ext_getElem?;intro v;rw[List.getElem?_set]
 by_cases hv:v<n
 ·rw[gy _ hv];have hr:=gy ev h2;rw[qt h] at hr;rw[Option.some.inj hr]
  by_cases e:c.toNat=v
  ·have:c=(v:Int):=by omega
   rw[if_pos e,if_pos (by rw[dv];omega),gy _ hv];have e2:((c.toNat:Nat):Int)=c:=by omega
   rw[e2,this,List.filter_append,w7];simp
  have:¬c=(v:Int):=by omega
  rw[if_neg e,gy _ hv];simp[List.filter_append,this]
 have hn:(cZ n (ev++[(c,x)]))[v]?=none:=List.getElem?_eq_none (by rw[dv];omega);rw[if_neg (by omega),hn,List.getElem?_eq_none (by rw[dv];omega)]
def eg (i:Nat) (ps:List dh):List (Int × lk):=ps.map fun p=>(p.dst,((i:Int),-1))
def iL (i:Nat) (xs:List aB):List (Int × lk):=(xs.zipIdx.filter fun x=>decide (0≤x.1.dst)).map fun x=>(x.1.dst,((i:Int),(x.2:Int)))
def tN (i:Nat) (b:aF):List (Int × lk):=eg i b.p++iL i b.s
def ee (f:ab) (k:Nat):List (Int × lk):=((f.q.take k).zipIdx).flatMap fun b=>tN b.2 b.1
theorem pv {α:Type} {l:List α} {k:Nat} (h:k<l.length):(l.take (k+1)).zipIdx=(l.take k).zipIdx++[(l[k],k)]:=by
 rw[qu h,List.zipIdx_append,w9,Nat.min_eq_left (by omega)];simp
theorem nF (i:Nat) {ps:List dh} {j:Nat} (h:j<ps.length):eg i (ps.take (j+1))=eg i (ps.take j)++[(ps[j].dst,((i:Int),-1))]:=by
 unfold eg;rw[qu h,w7];rfl
theorem lp (i:Nat) {xs:List aB} {j:Nat} (h:j<xs.length):iL i (xs.take (j+1))=iL i (xs.take j)++if 0≤xs[j].dst then[(xs[j].dst,((i:Int),(j:Int)))] else[]:=by
 unfold iL;rw[pv h,List.filter_append,w7]
 by_cases h0:0≤xs[j].dst
 ·simp[h0]
 simp[h0]
theorem ir {f:ab} {k:Nat} (h:k<f.q.length):ee f (k+1)=ee f k++tN k f.q[k]:=by
 unfold ee;rw[pv h,List.flatMap_append];simp
theorem tO (i:Nat) (xs:List aB):(iL i xs).length≤xs.length:=by
 unfold iL;rw[w2];exact Nat.le_trans (List.length_filter_le _ _) (by simp)
theorem HQ (i:Nat) (b:aF):(tN i b).length≤b.p.length+b.s.length:=by
 have:=tO i b.s;unfold tN eg;rw[qz,w2];omega
theorem Ar {f:ab} {m:Nat} (h:∀b∈f.q,b.p.length+b.s.length≤m):∀k,k≤f.q.length→(ee f k).length≤k*m
 |0,_=>by simp[ee]
 |k+1,hk=>by
  have h1:=Ar h k (by omega);have h2:=HQ k f.q[k];have h3:=h _ (qx (show k<f.q.length by omega));rw[ir (by omega),qz,Nat.add_mul];omega
theorem KN (i v:Nat) (b:aF):((tN i b).filter fun e=>decide (e.1=(v:Int))).map (·.2)=ll v i b:=by
 unfold tN eg iL ll;rw[List.filter_append,w7,List.filter_map,List.map_map,List.filter_map,List.map_map,List.filter_filter]
 congr 1
 congr 1
 apply List.filter_congr;intro x _
 by_cases e:x.1.dst=(v:Int)
 ·have:0≤x.1.dst:=by omega
  simp[e]
 simp[e]
theorem pw (f:ab) (v:Nat):((ee f f.q.length).filter fun e=>decide (e.1=(v:Int))).map (·.2)=aZ f v:=by
 unfold ee aZ;rw[qy,List.filter_flatMap,List.map_flatMap]
 congr 1
 funext b
 exact KN b.2 v b.1
def tP (f:ab):List (List lk):=cZ f.v.length (ee f f.q.length)
theorem tQ {f:ab} {v:Nat} (h:v<f.v.length):(tP f)[v]?=some (aZ f v):=by unfold tP;rw[gy _ h,pw]
theorem CR (f:ab):(tP f).length=f.v.length:=dv _ _
def lq (f:ab) (v:Nat):Bool:=!(decide (1<(aZ f v).length)||decide (0<(aZ f v).length)&&decide (v<f.z.length))
def nY (f:ab):Bool:=(List.range f.v.length).all (lq f)
theorem qK (f:ab):nY f=true↔mV f:=by
 unfold nY mV lq;rw[wd]
 constructor
 ·intro h v hv;have:=h v (List.mem_range.2 hv);simp only[Bool.not_eq_true',Bool.or_eq_false_iff,Bool.and_eq_false_iff,decide_eq_false_iff_not] at this;refine ⟨by omega,fun hne=>?_⟩;have hl:=List.length_pos_iff.2 hne;rcases this.2 with h1|h1<;>omega
 intro h v hv;obtain ⟨h1,h2⟩:=h v (List.mem_range.1 hv);simp only[Bool.not_eq_true',Bool.or_eq_false_iff,Bool.and_eq_false_iff,decide_eq_false_iff_not];refine ⟨by omega,?_⟩
 by_cases e:aZ f v=[]
 ·left;rw[e];simp
 right;have:=h2 e;omega
def dG (f:ab):List lk:=(List.range f.v.length).map fun (v:Nat)=>aE f v
theorem kJ {f:ab} {v:Nat} (h:v<f.v.length):(dG f)[v]?=some (aE f v):=by unfold dG;rw[w3,List.getElem?_range h];rfl
theorem m2 (f:ab):(dG f).length=f.v.length:=by simp[dG]
def eW (f:ab) (m:lk) (b at_:Int):Bool:=if m.1<0 then true else if m.1=b then decide (m.2<at_) else mU (aj f) f.q.length m.1 b
theorem iu {f:ab} (hE:cK f) (m:lk) (b at_:Int):eW f m b at_=true↔bI f m b at_:=by
 unfold eW bI
 by_cases h0:m.1<0
 ·rw[if_pos h0];simp[h0]
 rw[if_neg h0]
 by_cases h1:m.1=b
 ·rw[if_pos h1];simp[h1];omega
 rw[if_neg h1,hE.grph.domB_iff]
 constructor
 ·intro h;exact .inr (.inr ⟨by omega,h1,h⟩)
 rintro (h|h|h)
 ·exact absurd h h0
 ·exact absurd h.1 h1
 exact h.2.2
def MO (f:ab) (p:dh):Bool:=(p.args.zip p.w).all fun q=>eW f (aE f q.1) q.2 (eM f q.2)
def HR (f:ab) (i:Nat) (x:aB × Nat):Bool:=x.1.args.all fun v=>eW f (aE f v) i x.2
def NO (f:ab) (i:Nat) (b:aF):Bool:=decide (b.t.kind=0)||eW f (aE f b.t.var) i b.s.length
def vA (f:ab) (i:Nat) (b:aF):Bool:=b.p.all (MO f)&&b.s.zipIdx.all (HR f i)&&NO f i b
def N9 (f:ab) (i:Nat):Bool:=((f.q[i]?).map (vA f i)).getD true
def CS (f:ab):Bool:=(List.range f.q.length).all (N9 f)
theorem tR {f:ab} {i:Nat} {b:aF} (h:f.q[i]?=some b):N9 f i=vA f i b:=by unfold N9;rw[h];rfl
theorem As {f:ab} (hE:cK f) (i:Nat) (b:aF):vA f i b=true↔xH f i b:=by
 unfold vA xH;rw[wc,wc,and_assoc];refine and_congr ?_ (and_congr ?_ ?_)
 ·rw[wd];refine forall_congr' fun p=>forall_congr' fun _=>?_;unfold MO;rw[wd];exact forall_congr' fun q=>forall_congr' fun _=>iu hE _ _ _
 ·rw[wd]
  constructor
  ·intro h k hk v hv;have:=h (b.s[k],k) (List.mem_zipIdx_iff_getElem?.2 (qt hk));unfold HR at this;rw[wd] at this;exact (iu hE _ _ _).1 (this v hv)
  intro h x hx;have hx:=List.mem_zipIdx_iff_getElem?.1 hx;obtain ⟨hk,e⟩:=List.getElem?_eq_some_iff.1 hx;unfold HR;rw[wd];intro v hv;exact (iu hE _ _ _).2 (h x.2 hk v (by rw[e];exact hv))
 unfold NO;rw[Bool.or_eq_true,wi,iu hE]
theorem HS {f:ab} (hE:cK f):CS f=true↔MH f:=by
 unfold CS MH;rw[wd]
 constructor
 ·intro h i hi;have:=h i (List.mem_range.2 hi);rw[tR (qt hi)] at this;exact (As hE _ _).1 this
 intro h i hi;have hi:=List.mem_range.1 hi;rw[tR (qt hi)];exact (As hE _ _).2 (h i hi)
def eC (f:ab):Bool:=dO f&&(!(ik (aj f) f.q.length).contains false&&(nY f&&CS f))
theorem wE {f:ab} (hE:cK f):eC f=true↔D9 f:=by
 unfold eC D9;rw[wc,wc,wc,Bool.not_eq_true',Aq,oB hE,qK,HS hE]
end
section
open Go.Proofs.Tryz
open Go.Proofs Go.Lib Go.Shelf Go.RowKit
variable {E:World}
set_option maxRecDepth 20000
theorem lY (f:ab) (hf:small f) (hL:bS E):aS prog E 136 [.agg (bH f)] (.bool (bv f)):=by
 refine zm func136 U (by decide) U<|Z<|zx (cs:=_) U U U<|ah U<|Y<|Z<|ae Z2 jk U U<|zb (oA f hf hL) U<|au U U<|ah U<|Y<|zf ?_
 repeat (first|refine ad ?_|refine aa ?_)
 refine bt U ?_;cases bv f<;>rfl
theorem d5 {f:ab} (h:bv f=true):cK f:=by
 unfold bv at h;rw[wc,ij] at h;exact (wg h.1).ends
theorem Au (f:ab) (hf:small f) (hL:bS E) (ht:bv f=true):aS prog E 114 [.agg (bH f)] (sd eI (dJ f f.q.length)):=by
 have hn:=hf.2.2.1;refine zm func114 U (by decide) U<|Z<|zx (cs:=_) U U U<|X (kT U)<|Y<|za<|Z<|ae Z2 jk U U<|zb (lY f hf hL) U<|aL U<|Y<|yl U (by rw[ht];rfl)<|zc<|Z<|ae Z2 jk U U<|zb (tx f (d5 ht) (by omega)) U<|X (oU U)<|Y<|zf<|yz (x:=.fro _ _) U ?_
 rfl
theorem rE (f:ab) (hE:cK f) (hn:f.q.length≤1000):aS prog E 162 [.agg (bH f)] (.fro 1 ((aI (aj f) f.q.length).map b7)):=
 CI f hE (by omega) fun l i T h=>Aa l i T h
theorem Aw (f:ab) (hf:small f) (hL:bS E) (ht:bv f=true):aS prog E 113 [.agg (bH f)] (.fro 1 ((aI (aj f) f.q.length).map b7)):=by
 have hn:=hf.2.2.1;refine zm func113 U (by decide) U<|Z<|zx (cs:=_) U U U<|X (kT U)<|Y<|za<|Z<|ae Z2 jk U U<|zb (lY f hf hL) U<|aL U<|Y<|yl U (by rw[ht];rfl)<|zc<|Z<|ae Z2 jk U U<|zb (rE f (d5 ht) (by omega)) U<|X (oU U)<|Y<|zf<|yz (x:=.fro _ _) U ?_
 rfl
def vB (x:Bool):List AV:=[.bool x]
theorem CT (f:ab) (hE:cK f) (hn:f.q.length≤1000):aS prog E 139 [.agg (bH f)] (.fro 1 ((ik (aj f) f.q.length).map vB)):=by
 have hG:=hE.grph;have hol:=gH hG;refine zm func139 U (by decide) U<|Z<|zx (cs:=_) U U U<|X (kT U)<|Y<|Z<|ao jf U Zd U U<|aK Zf U<|am jr U<|qk (m:=f.q.length) ju Yr U U U U U (by simp) (by simp) (by show (1:Int)*_≤_;omega) (by omega)<|fun i9=>X (eO U)<|Y<|za<|Z<|ae Z2 jk U U<|zb (rE f hE hn) U<|am j7 U<|C U<|Y<|zd<|zu (γ:=Nat) [3,11,12] (fun k=>[(13,.i k)]) (fun k=>[(i9,.u 1 4 (cB (pu (List.replicate f.q.length false) ((aI (aj f) f.q.length).take k))))]) (fun k=>k≤(aI (aj f) f.q.length).length) (fun k=>(aI (aj f) f.q.length).length - k) 0 aN aJ (qw _) ?_;rintro k hk;refine Z<|aq U U<|Y<|za<|zh U (fun ck=>?_) (fun ck=>?_)
 ·have hk2:k<(aI (aj f) f.q.length).length:=by simp at ck;omega
  obtain ⟨b,hb⟩:∃b,(aI (aj f) f.q.length)[k]=b:=⟨_,rfl⟩;have hr:=da hG.toEOk (hb▸qx hk2);refine zc<|za<|zd<|Z<|X (bD k j7 j9 U U U (by rw[qt hk2,hb])) ?_;refine aD jg U<|ap U<|Y<|bZ<|bX U<|C U<|X (y7 (j:=b.toNat) ju Zc U U (by omega) ⟨_,.head⟩ (by rw[aP,ln];simp) (by omega))<|yy (j:=b.toNat) Zc U U .head (by rw[ln];simp;omega)<|Y<|bQ U U ?_;exact ⟨k+1,eX,aN,⟨_,(.refl _),by rw[qu hk2,CQ,hb]⟩,hk2,by omega⟩
 have hkn:k=(aI (aj f) f.q.length).length:=by simp at ck;omega
 subst hkn;rw[qy];refine zt<|Z<|bX U<|X (eO U)<|Y<|yd (aR.knowB (t:=2) U .head (by rw[ln];simp))<|zf<|yz (x:=.fro _ _) U ?_
 rfl
theorem Ax (f:ab) (hf:small f) (hL:bS E) (ht:bv f=true):aS prog E 101 [.agg (bH f)] (.fro 1 ((ik (aj f) f.q.length).map vB)):=by
 have hn:=hf.2.2.1;refine zm func101 U (by decide) U<|Z<|zx (cs:=_) U U U<|X (kT U)<|Y<|za<|Z<|ae Z2 jk U U<|zb (lY f hf hL) U<|aL U<|Y<|yl U (by rw[ht];rfl)<|zc<|Z<|ae Z2 jk U U<|zb (CT f (d5 ht) (by omega)) U<|X (oU U)<|Y<|zf<|yz (x:=.fro _ _) U ?_
 rfl
theorem Ay (xs:List Bool) (v:Bool) (hl:xs.length≤281474976710656):aS prog E 138 [.fro 1 (xs.map vB),.bool v] (.i (di (fun x=>decide (v=x)) xs 0)):=by
 refine zm func138 U (by decide) U<|Z<|ap U<|Y<|za<|Z<|bj U<|am ju U<|C U<|Y<|zd<|zu (γ:=Nat) [0,1,7] (fun k=>[(8,.i k)]) (fun k=>[]) (fun k=>k≤xs.length∧(xs.take k).all (fun x=>!decide (v=x))) (fun k=>xs.length - k) 0 aN aJ (⟨qw _,U⟩) ?_;rintro k ⟨hk,hall⟩;refine Z<|aq U U<|Y<|za<|zh U (fun ck=>?_) (fun ck=>?_)
 ·have hk2:k<xs.length:=by simp at ck;omega
  refine zc<|za<|zd<|Z<|C U<|ap U<|Y<|Z<|aw U<|bj U<|C U<|X (bD k ju Zc U U U (qt hk2))<|X (q8 (c:=.bool _) Yn U)<|X (Gv.eqlB Yp U U)<|Y<|zq U (fun cp=>?_) (fun cp=>?_)
  ·refine Z<|C U<|ap U<|Y<|zf ?_
   repeat (first|refine ad ?_|refine aa ?_)
   refine gu U ?_;rw[cH _ xs k hk hall,List.drop_eq_getElem_cons hk2,di,if_pos (by simpa using cp)]
  refine zc<|bQ U U ?_;exact ⟨k+1,eX,aN,aJ,⟨hk2,by rw[qu hk2,List.all_append,hall];simpa using cp⟩,by omega⟩
 have hkn:k=xs.length:=by simp at ck;omega
 refine zt<|Z<|ap U<|Y<|zf ?_
 repeat (first|refine ad ?_|refine aa ?_)
 refine gu U ?_;rw[cH _ xs k hk hall,hkn,List.drop_length,di]
theorem tS (xs:List Bool) (v:Bool) (hl:xs.length≤281474976710656):aS prog E 100 [.fro 1 (xs.map vB),.bool v] (.bool (xs.contains v)):=by
 refine zm func100 U (by decide) U<|Z<|ah U<|Y<|Z<|bj U<|aw U<|zb (Ay xs v hl) U<|X (q7 U U)<|ah U<|Y<|zf ?_
 repeat (first|refine ad ?_|refine aa ?_)
 refine bt U ?_;rw[gE];congr 1;rw[w4];simp
theorem MP (xs:List Int) (hl:xs.length≤1000):aX prog E 181 [.fro 1 (xs.map b7)] [] (fun x O'=>∃i:Nat,x=.j i xs.length∧O'=[(i,.u 1 3 (cI xs))]):=by
 refine zm func181 U (by decide) U<|Z<|X (kT U)<|Y<|za<|Z<|bj U<|ax.isNil j7 U U (fun hnil=>?_) ?_
 ·have hx:xs=[]:=by simpa using hnil
  subst hx;refine Y<|ym U U<|Z<|X (kT U)<|Y<|zf ?_
  repeat (first|refine ad ?_|refine aa ?_)
  refine E5 (s:=2) (k:=1) (T:=3) U (fun i=>?_);refine yz (x:=.j _ _) U ?_;exact ⟨i,rfl,rfl⟩
 refine Y<|yl U U<|zc<|Z<|yf (k:=1) j7 Y6<|fun i5=>bj U<|yb (k:=1) j7 Y6 U U U U U (fun _=>.head) (by simp) (by decide) (m0 (fun _=>U) xs) (by show (_+_)*8≤_;simp<;>omega) (by simp<;>omega)<|fun i7=>X (eO U)<|Y<|zf<|yz (x:=.j _ _) U ?_;exact ⟨i7,(by simp),by rw[←lN];rfl⟩
theorem oC (f:ab) {k:Nat} (h:k<f.q.length):(dJ f f.q.length)[k]?=some (bm (aj f) f.q.length (k:Int)):=by unfold dJ;rw[w3,List.getElem?_range h];rfl
theorem Az (f:ab) (hE:cK f) (hf:small f):aS prog E 137 [.agg (bH f)] (.bool (dO f)):=by
 have hn:=hf.2.2.1;refine zm func137 U (by decide) U<|Z<|zx (cs:=_) U U U<|ah U<|Y<|Z<|ae Z2 jk U U<|zb (tx f hE (by omega)) U<|X (oU U)<|Y<|za<|Z<|ao jf U Zd U U<|aK Zf U<|am jr U<|C U<|Y<|zd<|zu (γ:=Nat) [3,12,13] (fun k=>[(14,.i k)]) (fun k=>[]) (fun k=>k≤f.q.length∧(List.range k).all (HP f)=true) (fun k=>f.q.length - k) 0 aN aJ (⟨qw _,U⟩) ?_;rintro k ⟨hk,hall⟩;refine Z<|aq U U<|Y<|za<|zh U (fun ck=>?_) (fun ck=>?_)
 ·have hk2:k<f.q.length:=by simp at ck;omega
  obtain ⟨b,hbk⟩:∃b,f.q[k]=b:=⟨_,rfl⟩;have hget:f.q[k]?=some b:=by rw[qt hk2,hbk]
  obtain ⟨hb0,hb1,hb2,hb3,hb4⟩:=hf.2.2.2.2 b (hbk▸qx hk2);refine zc<|za<|zd<|Z<|C U<|X (bD k jr Z1 U U U hget)<|ae Ye Z1 U U<|zp (cs:=[.e,.n,.n,.i 0,.i 0,.i 0,.i 0]) Zh U U<|fun i5=>ap U<|zi Z1 U U U U U U .head U<|y9 (zz (t:=5) U .head)<|Y<|Z<|ao ji U Zv U U<|aK Yf U<|am Z6 U<|C U<|Y<|zd<|zu (γ:=Nat) [3,4,12,13,14,20,21] (fun j=>[(22,.i j)]) (fun j=>[]) (fun j=>j≤b.p.length∧(b.p.take j).all (J6 f k)=true) (fun j=>b.p.length - j) 0 aN aJ (⟨qw _,U⟩) ?_;rintro j ⟨hj,hjall⟩;refine Z<|aq U U<|Y<|za<|zh U (fun cj=>?_) (fun cj=>?_)
  ·have hj2:j<b.p.length:=by simp at cj;omega
   have hpf:=(hb3 _ (qx hj2)).2;refine zc<|za<|zd<|Z<|X (bD j Z6 Ze U U U (qt hj2))<|ae Ys Ze U U<|zp (cs:=[.i 0,.n,.n]) Y0 U U<|fun i7=>zi Ze U U U U U U .head U<|y9 (zz (t:=7) U .head)<|Y<|Z<|ao Z3 U jh U U<|aK jy U<|zy U (zk (.rest _)) (MP b.p[j].w hpf) ?_;rintro r28 O28 ⟨i8,rfl,rfl⟩;refine X (eO U)<|Y<|Z<|bX U<|zy U (zk (.l (.rest _))) (Ab b.p[j].w i8 _ (by omega)) ?_;rintro r30 O30 ⟨rfl,rfl⟩;refine Y<|yd (aR.knowI (t:=8) U .head (by rw[(fO _).length_eq]))<|Z<|bj U<|bj U<|C U<|X (bD k Zg jh U U U (oC f hk2))<|aK jy U<|zb (rv (mo b.p[j].w) (bm (aj f) f.q.length (k:Int)) (by unfold s7;rw[(fO _).length_eq];omega)) U<|aL U<|Y<|zq U (fun cq=>?_) (fun cq=>?_)
   ·refine Z<|ah U<|Y<|zf ?_
    repeat (first|refine ad ?_|refine aa ?_)
    refine bt U ?_;rw[show dO f=false from eG hk2 (by rw[nE hget];exact Bool.eq_false_iff.2 (dW hj2 (by simpa [J6] using cq)))]
   refine zc<|bQ U U ?_;exact ⟨j+1,lI,aN,aJ,⟨hj2,cD hj2 hjall (by simpa [J6] using cq)⟩,by omega⟩
  have hjn:j=b.p.length:=by simp at cj;omega
  subst hjn;rw[qy] at hjall;refine zt<|bQ U U ?_;exact ⟨k+1,eX,aN,aJ,⟨hk2,du hall (by rw[nE hget];exact hjall)⟩,by omega⟩
 have hkn:k=f.q.length:=by simp at ck;omega
 subst hkn;refine zt<|Z<|ah U<|Y<|zf ?_
 repeat (first|refine ad ?_|refine aa ?_)
 refine bt U ?_;rw[show dO f=true from hall]
theorem xO (f:ab) (hf:small f) (hL:bS E):aS prog E 99 [.agg (bH f)] (.i (if (bv f&&dO f)=true then 0 else 3)):=by
 refine zm func99 U (by decide) U<|Z<|zx (cs:=_) U U U<|ap U<|Y<|za<|Z<|ae Z2 jk U U<|zb (lY f hf hL) U<|aL U<|aw U<|zo (s:=6) U (fun ct=>?_) (fun ct=>?_)
 ·refine H U U ct<|H U U ct<|H U U ct<|aA U ct U<|Y<|ym U U<|Z<|ap U<|Y<|zf ?_
  repeat (first|refine ad ?_|refine aa ?_)
  refine gu U ?_;rw[show bv f=false by simpa using ct];rfl
 have ht:bv f=true:=by simpa using ct
 refine M U U ct<|ae Z2 jk U U<|M U U ct<|zb (Az f (d5 ht) hf) U<|M U U ct<|aL U<|ay U ct U<|Y<|zq U (fun cj=>?_) (fun cj=>?_)
 ·refine Z<|ap U<|Y<|zf ?_
  repeat (first|refine ad ?_|refine aa ?_)
  refine gu U ?_;rw[show dO f=false by simpa using cj];simp
 refine zc<|Z<|ap U<|Y<|zf ?_
 repeat (first|refine ad ?_|refine aa ?_)
 refine gu U ?_;rw[ht,show dO f=true by simpa using cj];rfl
end
section
open Go.Proofs.Tryz
section
variable {S:Int→List Int} {at_:Int→Int} {V:List Int} {N:Int→Int}
theorem FF (hV:vo S at_ V) (hN:kW S at_ V N) {K:Nat} (hK:∀a b,a∈V→b∈V→at_ a+at_ b<K) {x y:Int} (hx:N x≠-1) (hy:N y≠-1) (hlt:at_ y<at_ x) :
  x≠0∧N (N x)≠-1∧at_ (N x)<at_ x∧eL N at_ K x y=eL N at_ K (N x) y:=by
 have h1:=(hV.pos x).1 (hN.mem x hx);have h2:=(hV.pos y).1 (hN.mem y hy);have h3:=hK x y (hN.mem x hx) (hN.mem y hy);have hx0:x≠0:=fun e=>by rw[e,hV.zero] at hlt;omega
 obtain ⟨g1,g2,g3⟩:=hN.near x hx0 hx;refine ⟨hx0,g2,g3,?_⟩;obtain ⟨k,rfl⟩:∃k,K=k+1:=⟨K - 1,by omega⟩;have hm:=nz hV hN k (k+1) (N x) y g2 hy (by omega) (by omega);rw[hm];show (if x=y then x else if at_ y<at_ x then eL N at_ k (N x) y else eL N at_ k x (N y))=_;rw[if_neg (fun e=>by rw[e] at hlt;omega),if_pos hlt]
theorem CU (hV:vo S at_ V) (hN:kW S at_ V N) {K:Nat} (hK:∀a b,a∈V→b∈V→at_ a+at_ b<K) {x y:Int} (hx:N x≠-1) (hy:N y≠-1) (hlt:at_ x<at_ y) :
  y≠0∧N (N y)≠-1∧at_ (N y)<at_ y∧eL N at_ K x y=eL N at_ K x (N y):=by
 have h1:=(hV.pos x).1 (hN.mem x hx);have h2:=(hV.pos y).1 (hN.mem y hy);have h3:=hK x y (hN.mem x hx) (hN.mem y hy);have hy0:y≠0:=fun e=>by rw[e,hV.zero] at hlt;omega
 obtain ⟨g1,g2,g3⟩:=hN.near y hy0 hy;refine ⟨hy0,g2,g3,?_⟩;obtain ⟨k,rfl⟩:∃k,K=k+1:=⟨K - 1,by omega⟩;have hm:=nz hV hN k (k+1) x (N y) hx g2 (by omega) (by omega);rw[hm];show (if x=y then x else if at_ y<at_ x then eL N at_ k (N x) y else eL N at_ k x (N y))=_;rw[if_neg (fun e=>by rw[e] at hlt;omega),if_neg (by omega)]
theorem FG {K:Nat} (hK:0<K) (x:Int):eL N at_ K x x=x:=by
 obtain ⟨k,rfl⟩:∃k,K=k+1:=⟨K - 1,by omega⟩;show (if x=x then x else _)=x;rw[if_pos rfl]
end
def AA (n:Nat) (V:List Int) (k:Nat):List Int:=((V.take k).zipIdx).foldl (fun l p=>l.set p.1.toNat (p.2:Int)) (List.replicate n (-1))
theorem qL {α:Type} {g:List Int→α→List Int} (h:∀l x,(g l x).length=l.length):∀(ws:List α) (l:List Int),(ws.foldl g l).length=l.length
 |[],_=>rfl
 |w::ws,l=>by rw[List.foldl_cons,qL h ws,h]
theorem tT (n:Nat) (V:List Int) (k:Nat):(AA n V k).length=n:=by unfold AA;rw[qL (fun l x=>List.length_set)];simp
theorem FH {n:Nat} {V:List Int} {k:Nat} (h:k<V.length):(AA n V k).set V[k].toNat (k:Int)=AA n V (k+1):=by
 unfold AA;rw[pv h,List.foldl_append];rfl
theorem AB (n:Nat) (V:List Int):AA n V V.length=eR n V:=by unfold AA eR;rw[qy]
section
variable {S:Int→List Int} {at_ V:List Int} {preds:Int→List Int} {n:Nat}
def tU (at_:List Int) (K:Nat) (preds:Int→List Int) (V l:List Int) (q:Nat):List Int:=((V.drop 1).take q).foldl (lj at_ K preds) l
theorem CV {K q:Nat} {l:List Int} (h:q<(V.drop 1).length):tU at_ K preds V l (q+1)=lj at_ K preds (tU at_ K preds V l q) (V.drop 1)[q]:=by
 unfold tU;rw[qu h,List.foldl_append];rfl
theorem FI {K:Nat} {l:List Int}:tU at_ K preds V l (V.drop 1).length=wo at_ K preds V l:=by
 unfold tU wo;rw[qy,List.drop_one]
theorem FJ {K q:Nat} (l:List Int):(tU at_ K preds V l q).length=l.length:=tk K _ _
end
section
variable {E:Int→List Int} {n:Nat}
theorem wF (hE:gx E n) {b p:Int} (h:p∈bm E n b):0≤p∧p<n:=by
 unfold bm at h;obtain ⟨i,h1,h2⟩:=List.mem_flatMap.1 h;obtain ⟨c,_,rfl⟩:=List.mem_map.1 h2;exact dR.1 h1
def bA (E:Int→List Int) (n:Nat):List Int:=(db E n).set 0 (-1)
theorem gI (E:Int→List Int) (n:Nat):(bA E n).length=n:=by unfold bA;rw[List.length_set,nB]
theorem iy {b:Int} (h0:0≤b) (hb:b≠0):gi (bA E n) b=gi (db E n) b:=by
 unfold bA gi;rw[if_pos h0,if_pos h0,List.getElem?_set_ne (by omega)]
theorem xP (hn:0<n):gi (bA E n) 0=-1:=by
 unfold bA gi;rw[if_pos (Int.le_refl _)];simp[nB,hn]
end
theorem CW (N at_:Int→Int) (K:Nat) (p:Int) (ps:List Int) (m:Int):hU N at_ K (p::ps) m=hU N at_ K ps (if at_ p=-1∨N p=-1 then m else if m=-1 then p else eL N at_ K m p):=rfl
end
section
open Go.Proofs.Tryz
open Go.Proofs
variable {E:World}
set_option maxRecDepth 20000
theorem FK {S:Int→List Int} {V nr al:List Int} {n K i j:Nat} {T T':TypeId} (hV:vo S (gi al) V) (hN:kW S (gi al) V (gi nr)) (hK:∀a b,a∈V→b∈V→gi al a+gi al b<K) (hK0:0<K) (hnl:nr.length=n) (hal:al.length=n) (hlt:∀b∈V,b<n) {a b:Int} (ha:gi nr a≠-1) (hb:gi nr b≠-1) :
  aX prog E 164 [.agg [.j i n,.j j n],.i a,.i b] [(j,.u 1 T' (cI al)),(i,.u 1 T (cI nr))]
   fun r O=>r=.i (eL (gi nr) (gi al) K a b)∧O=[(j,.u 1 T' (cI al)),(i,.u 1 T (cI nr))]:=by
 have hget:∀x,gi nr x≠-1→0≤x∧x.toNat<n:=fun x hx=>by
  have hm:=hN.mem x hx;have:=hV.nn x hm;have:=hlt x hm;omega
 have hNl:∀x,gi nr x≠-1→nr[x.toNat]?=some (gi nr x):=fun x hx=>ie (hget x hx).1 (by rw[hnl];exact (hget x hx).2);have hAl:∀x,gi nr x≠-1→al[x.toNat]?=some (gi al x):=fun x hx=>ie (hget x hx).1 (by rw[hal];exact (hget x hx).2);have hpos:∀x,gi nr x≠-1→0≤gi al x:=fun x hx=>(hV.pos x).1 (hN.mem x hx);refine zm func164 U (by decide) U<|Z<|qi (cs:=_) U U U U<|fun i3=>ap U<|Y<|za<|zd<|zu (γ:=Int × Int) [3] (fun g=>[(1,.i g.1),(2,.i g.2)]) (fun g=>[(i3,.cells 227 [.j i n,.j j n]),(j,.u 1 T' (cI al)),(i,.u 1 T (cI nr))]) (fun g=>gi nr g.1≠-1∧gi nr g.2≠-1∧eL (gi nr) (gi al) K g.1 g.2=eL (gi nr) (gi al) K a b) (fun g=>(gi al g.1+gi al g.2).toNat) (a,b) cV aJ (⟨ha,hb,U⟩) ?_;rintro ⟨x,y⟩ ⟨hx,hy,hm⟩;try dsimp only at *
 refine za<|Z<|C U<|C U<|aT U U<|Y<|zq U (fun cxy=>?_) (fun cxy=>?_)
 ·have hxy:x≠y:=by simpa using cxy
  refine zc<|zd<|za<|zd<|zu (γ:=Int) [2,3] (fun u=>[(1,.i u)]) (fun u=>[(i3,.cells 227 [.j i n,.j j n]),(j,.u 1 T' (cI al)),(i,.u 1 T (cI nr))]) (fun u=>gi nr u≠-1∧eL (gi nr) (gi al) K u y=eL (gi nr) (gi al) K a b∧(u=x∨gi al u<gi al x)) (fun u=>(gi al u).toNat) x aN aJ (⟨hx,hm,.inl U⟩) ?_;rintro u ⟨hu,hmu,hux⟩
  refine za<|za<|zn (fun j=>false) (by kernel_rfl) U (zk (.r (.r (.r (.rest _)))))<|D 0 U (ze Y1 U jh (by decide) U U)<|D 1 U (zj (c:=.j _ _) jy U ⟨_,.head⟩ U)<|D 2 U (dC U)<|D 3 U (y7 (j:=u.toNat) j7 j9 U U (by have:=hget u hu;omega) ⟨_,.t1⟩ (by first|rfl|(simp[aH,aP];done)|(simp[aH,aP];omega)) (hget u hu).2)<|D 4 U (yp (j:=u.toNat) jg U ⟨_,.t1⟩ (hAl u hu))<|D 5 U (ze Y1 U jh (by decide) U U)<|D 6 U (zj (c:=.j _ _) jy U ⟨_,.head⟩ U)<|D 7 U (dC U)<|D 8 U (y7 (j:=y.toNat) j7 j9 U U (by have:=hget y hy;omega) ⟨_,.t1⟩ (by first|rfl|(simp[aH,aP];done)|(simp[aH,aP];omega)) (hget y hy).2)<|D 9 U (yp (j:=y.toNat) jg U ⟨_,.t1⟩ (hAl y hy))<|D 10 U (Gv.gtr U U)<|dS<|zq U (fun c1=>?_) (fun c1=>?_)
  ·have c1:gi al y<gi al u:=by simpa using c1
   obtain ⟨h1,h2,h3,h4⟩:=FF hV hN hK hu hy c1;have hp:=hpos u hu;have hp':=hpos _ h2;refine zc<|zd<|bZ<|X (ze Y1 U jh (by decide) U U)<|X (zj (c:=.j _ _) jy U ⟨_,.head⟩ U)<|C U<|X (y7 (j:=u.toNat) j7 j9 U U (by have:=hget u hu;omega) ⟨_,.t2⟩ (by first|rfl|(simp[aH,aP];done)|(simp[aH,aP];omega)) (hget u hu).2)<|X (yp (j:=u.toNat) jg U ⟨_,.t2⟩ (hNl u hu))<|ap U<|Y ?_;exact ⟨gi nr u,cV,aN,aJ,⟨h2,by rw[←h4];exact hmu,.inr (by rcases hux with rfl|h<;>omega)⟩,by omega⟩
  have c1:¬gi al y<gi al u:=by simpa using c1
  refine zt<|zd<|zu (γ:=Int) [1,3] (fun z=>[(2,.i z)]) (fun z=>[(i3,.cells 227 [.j i n,.j j n]),(j,.u 1 T' (cI al)),(i,.u 1 T (cI nr))]) (fun z=>gi nr z≠-1∧eL (gi nr) (gi al) K u z=eL (gi nr) (gi al) K a b∧(z=y∨gi al z<gi al y)) (fun z=>(gi al z).toNat) y aN aJ (⟨hy,hmu,.inl U⟩) ?_;rintro z ⟨hz,hmz,hzy⟩
  refine za<|za<|zn (fun j=>false) (by kernel_rfl) U (zk (.r (.r (.r (.rest _)))))<|D 0 U (ze Y1 U jh (by decide) U U)<|D 1 U (zj (c:=.j _ _) jy U ⟨_,.head⟩ U)<|D 2 U (dC U)<|D 3 U (y7 (j:=z.toNat) j7 j9 U U (by have:=hget z hz;omega) ⟨_,.t1⟩ (by first|rfl|(simp[aH,aP];done)|(simp[aH,aP];omega)) (hget z hz).2)<|D 4 U (yp (j:=z.toNat) jg U ⟨_,.t1⟩ (hAl z hz))<|D 5 U (ze Y1 U jh (by decide) U U)<|D 6 U (zj (c:=.j _ _) jy U ⟨_,.head⟩ U)<|D 7 U (dC U)<|D 8 U (y7 (j:=u.toNat) j7 j9 U U (by have:=hget u hu;omega) ⟨_,.t1⟩ (by first|rfl|(simp[aH,aP];done)|(simp[aH,aP];omega)) (hget u hu).2)<|D 9 U (yp (j:=u.toNat) jg U ⟨_,.t1⟩ (hAl u hu))<|D 10 U (Gv.gtr U U)<|dS<|zq U (fun c2=>?_) (fun c2=>?_)
  ·have c2:gi al u<gi al z:=by simpa using c2
   obtain ⟨h1,h2,h3,h4⟩:=CU hV hN hK hu hz c2;have hp:=hpos z hz;have hp':=hpos _ h2;refine zc<|zd<|bZ<|X (ze Y1 U jh (by decide) U U)<|X (zj (c:=.j _ _) jy U ⟨_,.head⟩ U)<|C U<|X (y7 (j:=z.toNat) j7 j9 U U (by have:=hget z hz;omega) ⟨_,.t2⟩ (by first|rfl|(simp[aH,aP];done)|(simp[aH,aP];omega)) (hget z hz).2)<|X (yp (j:=z.toNat) jg U ⟨_,.t2⟩ (hNl z hz))<|ap U<|Y ?_;exact ⟨gi nr z,cV,aN,aJ,⟨h2,by rw[←h4];exact hmz,.inr (by rcases hzy with rfl|h<;>omega)⟩,by omega⟩
  have c2:¬gi al u<gi al z:=by simpa using c2
  have hp1:=hpos x hx;have hp2:=hpos y hy;have hp3:=hpos u hu;have hp4:=hpos z hz;have hin:gi al x=gi al y→x=y:=fun e=>hV.inj x y (hN.mem x hx) (hN.mem y hy) e;refine zt ?_;exact ⟨(u,z),aN,cV,aJ,⟨hu,hz,hmz⟩,by dsimp only;rcases hux with rfl|hux<;>rcases hzy with rfl|hzy<;>omega⟩
 have hxy:x=y:=by simpa using cxy
 subst hxy;rw[FG hK0] at hm;refine zt<|Z<|C U<|ap U<|Y<|yd (qe .head)<|zf ?_
 repeat (first|refine ad ?_|refine aa ?_)
 refine gu U ?_;exact ⟨by rw[hm],rfl⟩
end
section
open Go.Proofs.Tryz
open Go.Proofs
theorem Oa:eS prog 227 #[(0,1),(1,1)] [.n,.n]:=⟨_,_,Y1,zeroValue227,fun w=>by kernel_rfl,rfl⟩
variable {E:World}
set_option maxRecDepth 20000
theorem xQ (f:ab) (hE:cK f) (hn:f.q.length≤1000):aX prog E 115 [.fro 1 ((aI (aj f) f.q.length).map b7),sd eI (dJ f f.q.length),.i f.q.length] []
  fun x O'=>∃i:Nat,x=.j i f.q.length∧O'=[(i,.u 1 3 (cI (bA (aj f) f.q.length)))]:=by
 have hG:=hE.grph;have hk:=hG.gok;have hpos:=hG.npos;have hol:=gH hG;obtain ⟨n,hnn⟩:∃n,f.q.length=n:=⟨_,rfl⟩;obtain ⟨S,hS⟩:∃S,aj f=S:=⟨_,rfl⟩;have hrow:∀k,k<n→(dJ f n)[k]?=some (bm S n (k:Int)):=fun k h=>by rw[←hnn,←hS];exact oC f (by omega)
 rw[hnn] at hk hG hpos hol hn ⊢;rw[hS] at hk hG hol ⊢;obtain ⟨V,hVe⟩:∃V,aI S n=V:=⟨_,rfl⟩;have hNG:wt (eR n V) V (bm S n) n=db S n:=by rw[←hVe];rfl
 rw[hVe] at hk hol ⊢;have hVp:=hk.pos;have hK:=hk.K;have hdl:(V.drop 1).length+1=V.length:=by simp;omega
 refine zm func115 U (by decide) U<|Z<|X (kT U)<|Y<|Z<|zw (rows:=[[_]]) ed U U U U U<|C U<|zy U (zk (.rest _)) (cL (-1) n (by omega) hpos) ?_;rintro r18 O18 ⟨i18,rfl,rfl⟩;refine zw (rows:=[[_]]) ed U U U U U<|C U<|zy U (zk (.r (.rest _))) (cL (-1) n (by omega) hpos) ?_;rintro r21 O21 ⟨i21,rfl,rfl⟩;refine X (y5 (cps:=[(0,[_]),(1,[_])]) (rs:=[_,_]) Oa U U U)<|zp (cs:=[.n,.n]) zeroValue227 U U<|fun i7=>zi sizeOf227 U U U U U U .head U<|Y<|za<|Z<|bj U<|am j7 U<|C U<|Y<|zd<|zu (γ:=Nat) [0,1,7,23,24] (fun k=>[(25,.i k)]) (fun k=>[(i7,.cells 227 [.j i18 n,.j i21 n]),(i21,.u 1 3 (cI (AA n V k))),(i18,.u 1 3 (cI (List.replicate n (-1))))]) (fun k=>k≤V.length) (fun k=>V.length - k) 0 aN aJ (qw _) ?_;rintro k hkl;refine Z<|aq U U<|Y<|za<|zh U (fun ck=>?_) (fun ck=>?_)
 ·have hk2:k<V.length:=by simp at ck;omega
  have hb:=hk.lt _ (qx hk2);have hb0:=hk.ord.nn _ (qx hk2);refine zc<|za<|zd<|Z<|C U<|X (bD k j7 j9 U U U (qt hk2))<|aD jg U<|ap U<|ap U<|Y<|bZ<|X (ze Y1 U jh (by decide) U U)<|X (zj (c:=.j _ _) jy U ⟨_,.head⟩ U)<|C U<|C U<|X (y7 (j:=V[k].toNat) j7 j9 U U (by omega) ⟨_,.t1⟩ (by rw[aH,tT]) (by omega))<|yw (j:=V[k].toNat) j9 U U .t1 (by rw[tT];omega)<|Y<|bQ U U ?_;exact ⟨k+1,lf,aN,⟨_,(.refl _),by rw[FH hk2]⟩,hk2,by omega⟩
 have hkn:k=V.length:=by simp at ck;omega
 subst hkn;rw[AB];have hatl:(eR n V).length=n:=by rw[←AB];exact tT n V _
 have hatg:∀x:Int,0≤x→x<n→(eR n V)[x.toNat]?=some (gi (eR n V) x):=fun x h1 h2=>ie h1 (by omega);refine zt<|Z<|X (ze Y1 U jh (by decide) U U)<|X (zj (c:=.j _ _) jy U ⟨_,.head⟩ U)<|X (y7 (j:=0) j7 j9 U U U ⟨_,.t2⟩ (by first|rfl|(simp[aH,aP];done)|(simp[aH,aP];omega)) (by omega))<|yw (j:=0) j9 U U .t2 (by first|omega|(simp;omega))<|Y<|za<|Z<|ah U<|Y<|zd<|zu (γ:=Nat × Bool × List Int) [0,1,7] (fun g=>[(10,.bool g.2.1)]) (fun g=>[(i7,.cells 227 [.j i18 n,.j i21 n]),(i21,.u 1 3 (cI (eR n V))),(i18,.u 1 3 (cI g.2.2))]) (fun g=>pj S (gi (eR n V)) V (gi g.2.2) g.1 1∧g.2.2.length=n∧(g.2.1=true→g.1≤V.length)∧(g.2.1=false→g.2.2=db S n)) (fun g=>(if g.2.1=true then V.length+1 - g.1 else 0)) (0,true,gv n) aN aJ (⟨hk.begin,ou n,fun _=>qw _,fun h=>by cases h⟩) ?_;rintro ⟨j,again,l⟩ ⟨hR,hl,hj,hfin⟩;try dsimp only at *
 refine za<|Z<|aw U<|Y<|zq U (fun ca=>?_) (fun ca=>?_)
 ·have ca:again=true:=by simpa using ca
  subst ca;have hj:=hj rfl;refine zc<|zd<|Z<|ah U<|Y<|Z<|bj U<|X (Gv.cutLoM (j:=1) j7 j9 U U U (by omega))<|am j7 U<|C U<|Y<|zd<|zu (γ:=Nat × Bool × List Int) [0,1,7,41,42] (fun g=>[(43,.i g.1),(10,.bool g.2.1)]) (fun g=>[(i7,.cells 227 [.j i18 n,.j i21 n]),(i21,.u 1 3 (cI (eR n V))),(i18,.u 1 3 (cI g.2.2))]) (fun g=>g.1≤(V.drop 1).length∧g.2.2=tU (eR n V) (2*V.length) (bm S n) V l g.1∧pj S (gi (eR n V)) V (gi g.2.2) j ((g.1+1:Nat):Int)∧(g.2.1=true→j<V.length)∧(g.2.1=false→g.2.2=l)) (fun g=>(V.drop 1).length - g.1) (0,false,l) cV aJ (⟨qw _,U,hR,fun h=>(by cases h),fun _=>U⟩) ?_;rintro ⟨q,ag,l'⟩ ⟨hq,hl',hR',hag,hsame⟩;try dsimp only at *
  have hl'n:l'.length=n:=by rw[hl',FJ,hl]
  refine Z<|aq U U<|Y<|za<|zh U (fun cq=>?_) (fun cq=>?_)
  ·have hq2:q<(V.drop 1).length:=by simpa using cq
   obtain ⟨b,hb⟩:∃b,(V.drop 1)[q]=b:=⟨_,rfl⟩;have hbV:V[q+1]?=some b:=by rw[←hb,List.getElem_drop,Nat.add_comm];exact qt (by simp at hq2;omega)
   obtain ⟨hs1,hs2,hs3,hbm,hb0⟩:=hk.step hl'n (Nat.succ_pos q) hbV hR';have hblt:=hk.lt b hbm;have hbnn:=hk.ord.nn b hbm;have hpr:∀p∈bm S n b,0≤p∧p<n:=fun p hp=>wF hG hp;have hsucc:=CV (at_:=eR n V) (K:=2*V.length) (preds:=bm S n) (l:=l) hq2;rw[hb,←hl'] at hsucc;have hgl:∀x:Int,0≤x→x<n→l'[x.toNat]?=some (gi l' x):=fun x h1 h2=>ie h1 (by omega);have hrb:(dJ f n)[b.toNat]?=some (bm S n b):=by
    have:=hrow b.toNat (by omega)
    rwa [show ((b.toNat:Nat):Int)=b by omega] at this
   obtain ⟨ps,hps⟩:∃ps,bm S n b=ps:=⟨_,rfl⟩;have hpsl:ps.length≤2*n:=by rw[←hps,←hS];exact ke f b n
   rw[hps] at hpr hrb;refine zc<|za<|zd<|Z<|X (bD q j7 j9 U U U (by rw[qt hq2,hb])) ?_;refine aD jg U<|ap U<|Y<|Z<|ap U<|Y<|za<|Z<|bj U<|C U<|X (bD b.toNat Zg jh U U (by omega) hrb)<|aK jy U<|am j7 U<|C U<|Y<|zd<|zu (γ:=Nat × Int) [0,1,7,10,12,41,42,43,50,51] (fun g=>[(52,.i g.1),(13,.i g.2)]) (fun g=>[(i7,.cells 227 [.j i18 n,.j i21 n]),(i21,.u 1 3 (cI (eR n V))),(i18,.u 1 3 (cI l'))]) (fun g=>g.1≤ps.length∧hU (gi l') (gi (eR n V)) (2*V.length) (ps.drop g.1) g.2=hU (gi l') (gi (eR n V)) (2*V.length) ps (-1)∧(g.2=-1∨gi l' g.2≠-1)) (fun g=>ps.length - g.1) (0,-1) cV aJ (⟨qw _,U,.inl U⟩) ?_;rintro ⟨m,best⟩ ⟨hm,hbst,hbn⟩;try dsimp only at *
   refine Z<|aq U U<|Y<|za<|zh U (fun cm=>?_) (fun cm=>?_)
   ·have hm2:m<ps.length:=by simp at cm;omega
    obtain ⟨p,hp⟩:∃p,ps[m]=p:=⟨_,rfl⟩;obtain ⟨hp0,hpn⟩:=hpr p (hp▸qx hm2);have hbst:hU (gi l') (gi (eR n V)) (2*V.length) (ps.drop (m+1)) (if gi (eR n V) p=-1∨gi l' p=-1 then best else if best=-1 then p else eL (gi l') (gi (eR n V)) (2*V.length) best p)=hU (gi l') (gi (eR n V)) (2*V.length) ps (-1):=by
     rw[←hbst,List.drop_eq_getElem_cons hm2,CW,hp]
    refine zc<|za<|zd<|Z<|X (bD m j7 j9 U U U (by rw[qt hm2,hp])) ?_;refine aD jg U<|ap U<|Y<|zd<|Z<|X (ze Y1 U jh (by decide) U U)<|X (zj (c:=.j _ _) jy U ⟨_,.head⟩ U)<|C U<|X (y7 (j:=p.toNat) j7 j9 U U (by omega) ⟨_,.t1⟩ (by first|rfl|(simp[aH,aP];done)|(simp[aH,aP];omega)) (by omega))<|X (yp (j:=p.toNat) jg U ⟨_,.t1⟩ (hatg p hp0 hpn))<|au U U<|aw U<|zo (s:=67) U (fun c1=>?_) (fun c1=>?_)
    ·have d1:gi (eR n V) p=-1:=by simpa using c1
     rw[if_pos (.inl d1)] at hbst;refine H U U c1<|H U U c1<|H U U c1<|H U U c1<|H U U c1<|H U U c1<|aA U c1 U<|ah U<|Y<|ym U U<|zc<|bQ U U ?_;exact ⟨(m+1,best),jX,cV,aJ,⟨hm2,hbst,hbn⟩,by dsimp only;omega⟩
    have d1:¬gi (eR n V) p=-1:=by simpa using c1
    refine M U U c1<|X (ze Y1 U jh (by decide) U U)<|M U U c1<|X (zj (c:=.j _ _) jy U ⟨_,.head⟩ U)<|M U U c1<|C U<|M U U c1<|X (y7 (j:=p.toNat) j7 j9 U U (by omega) ⟨_,.t2⟩ (by first|rfl|(simp[aH,aP];done)|(simp[aH,aP];omega)) (by omega))<|M U U c1<|X (yp (j:=p.toNat) jg U ⟨_,.t2⟩ (hgl p hp0 hpn))<|M U U c1<|au U U<|ay U c1 U<|ah U<|Y<|zq U (fun c2=>?_) (fun c2=>?_)
    ·have d2:gi l' p=-1:=by simpa using c2
     rw[if_pos (.inr d2)] at hbst;refine zc<|bQ U U ?_;exact ⟨(m+1,best),jX,cV,aJ,⟨hm2,hbst,hbn⟩,by dsimp only;omega⟩
    have d2:¬gi l' p=-1:=by simpa using c2
    rw[if_neg (by rintro (h|h);exact d1 h;exact d2 h)] at hbst;refine Z<|C U<|au U U<|ah U<|Y<|zq U (fun c3=>?_) (fun c3=>?_)
    ·have c3:best=-1:=by simpa using c3
     rw[if_pos c3] at hbst;refine bZ<|C U<|ap U<|Y<|bQ U U ?_;exact ⟨(m+1,p),jX,cV,aJ,⟨hm2,hbst,.inr d2⟩,by dsimp only;omega⟩
    have c3:¬best=-1:=by simpa using c3
    rw[if_neg c3] at hbst;have hbb:gi l' best≠-1:=by rcases hbn with h|h;exact absurd h c3;exact h
    refine bZ<|X (qb isAgg227 sizeOf227 U ⟨_,.head⟩ U)<|C U<|C U<|zy U (zk (.r (.l (.l (.rest _))))) (FK hk.ord hR'.inv hK (by omega) hl'n hatl hk.lt hbb d2) ?_;rintro r59 O59 ⟨rfl,rfl⟩;refine ap U<|Y<|gd .t2<|bQ U U ?_;exact ⟨(m+1,eL (gi l') (gi (eR n V)) (2*V.length) best p),jX,cV,aJ,⟨hm2,hbst,.inr (pg hk.ord hR'.inv _ best p hbb d2 (hK best p (hR'.inv.mem _ hbb) (hR'.inv.mem _ d2))).1⟩,by dsimp only;omega⟩
   have hmn:m=ps.length:=by simp at cm;omega
   subst hmn;rw[List.drop_length] at hbst;have hbst:best=hU (gi l') (gi (eR n V)) (2*V.length) ps (-1):=hbst;have hst:lj (eR n V) (2*V.length) (bm S n) l' b=l'.set b.toNat best:=by unfold lj;rw[hps,←hbst]
   rw[hst] at hs1 hs2 hsucc;refine zt<|Z<|X (ze Y1 U jh (by decide) U U)<|X (zj (c:=.j _ _) jy U ⟨_,.head⟩ U)<|C U<|X (y7 (j:=b.toNat) j7 j9 U U (by omega) ⟨_,.t2⟩ (by first|rfl|(simp[aH,aP];done)|(simp[aH,aP];omega)) (by omega))<|X (yp (j:=b.toNat) jg U ⟨_,.t2⟩ (hgl b hbnn hblt))<|C U<|aT U U<|Y<|zq U (fun ce=>?_) (fun ce=>?_)
   ·have ce:¬gi l' b=best:=by simpa using ce
    have hjl:j<V.length:=Classical.byContradiction fun h=>ce (by
     have h2:=hs2 (by omega);have h3:=xE (l:=l') hbnn (by omega) best;rw[h2] at h3;have h4:=congrFun h3 b
     simpa [kX] using h4)
    refine bZ<|X (ze Y1 U jh (by decide) U U)<|X (zj (c:=.j _ _) jy U ⟨_,.head⟩ U)<|C U<|C U<|X (y7 (j:=b.toNat) j7 j9 U U (by omega) ⟨_,.t2⟩ (by first|rfl|(simp[aH,aP];done)|(simp[aH,aP];omega)) (by omega))<|yw (j:=b.toNat) j9 U U .t2 (by first|omega|(simp;omega))<|ah U<|Y<|bQ U U ?_;exact ⟨(q+1,true,l'.set b.toNat best),lf,cV,aJ,⟨hq2,hsucc.symm,hs1,fun _=>hjl,fun h=>by cases h⟩,by dsimp only;omega⟩
   have ce:gi l' b=best:=by simpa using ce
   rw[←ce,zS hbnn] at hs1 hsucc;refine zc<|bQ U U ?_;exact ⟨(q+1,ag,l'),lf,cV,aJ,⟨hq2,hsucc.symm,hs1,hag,hsame⟩,by dsimp only;omega⟩
  have hqn:q=(V.drop 1).length:=by have h0:¬(q:Int)<((V.drop 1).length:Int):=(by simpa using cq);omega
  subst hqn;rw[FI] at hl';have hR2:pj S (gi (eR n V)) V (gi l') (j+1) 1:=by rw[hl'];exact hk.pass hl hR
  refine zt ?_;exact ⟨(j+1,ag,l'),eX,aN,aJ,⟨hR2,hl'n,fun h=>by have:=hag h;omega,fun h=>by have e:=hsame h;rw[e] at hl';have:=hk.near_eq hl (hk.fixed hl hR hl'.symm);rw[e,this,hNG]⟩,by dsimp only;rw[if_pos rfl];split<;>omega⟩
 have ca:again=false:=by simpa using ca
 have hfin:=hfin ca;subst hfin;refine zt<|Z<|X (ze Y1 U jh (by decide) U U)<|X (zj (c:=.j _ _) jy U ⟨_,.head⟩ U)<|X (y7 (j:=0) j7 j9 U U U ⟨_,.t2⟩ (by rw[aH,nB]) (by omega))<|yw (j:=0) j9 U U .t2 (by rw[nB];omega)<|Y<|Z<|X (ze Y1 U jh (by decide) U U)<|X (zj (c:=.j _ _) jy U ⟨_,.head⟩ U)<|X (eO U)<|Y<|yd (qe .head)<|yd (qe .head)<|zf<|yz (x:=.j _ _) U ?_;exact ⟨i18,rfl,rfl⟩
end
section
open Go.Proofs.Tryz
section
variable {E:World} {P:Program} {env:aU} {O O' O'':OL}
theorem aR.knowIC {j off i m:Nat} {T T':TypeId} {cs:List AV} {l:List Int} (hO:dI O i (.u 1 T (cI l)) O') (hP:gc O' j (.cells T' cs) (.cells T' (cs.set off (.fro 1 (l.map fun x=>[.i x])))) O'') (hc:cs[off]?=some (.j i m)) (hm:l.length=m):aR E env O env O'':=
 aR.knowC (rows:=l.map fun x=>[.int .i64 x]) (by rw[lN];exact hO) hP hc (fun r hr=>by obtain ⟨_,_,rfl⟩:=List.mem_map.1 hr;rfl) (by decide) (by rw[w2];exact hm)
theorem aR.knowBC {j off i m:Nat} {T T':TypeId} {cs:List AV} {l:List Bool} (hO:dI O i (.u 1 T (cB l)) O') (hP:gc O' j (.cells T' cs) (.cells T' (cs.set off (.fro 1 (l.map fun x=>[.bool x])))) O'') (hc:cs[off]?=some (.j i m)) (hm:l.length=m):aR E env O env O'':=
 aR.knowC (rows:=l.map fun x=>[.bool x]) (by rw[DU];exact hO) hP hc (fun r hr=>by obtain ⟨_,_,rfl⟩:=List.mem_map.1 hr;rfl) (by decide) (by rw[w2];exact hm)
theorem aR.nestBackN {α:Type} {c:fu α} {b j m i n:Nat} {T e:TypeId} {rows:List (List α)} {r:List α} (hn:r.length=n) (hP:dI O i (.u c.k e (c.av r)) O') (hO:gc O' m (DV c T e b rows j n i) (dN c T e b (rows.set j r)) O''):aR E env O env O'':=by subst hn;exact aR.nestBack hP hO
theorem aX.weak {f:FuncId} {args:List AV} {R:AV→OL→Prop} {y:AV} (h:aX P E f args [] R) (hr:∀x O,R x O→O=[]∧∀I v,bW I x v→bW I y v):aS P E f args y:=fun I F w vs h1 h2=>
 (h I F w vs h1 h2).mono fun v w' ⟨J,x,O',a,b,c,d⟩=>by
  obtain ⟨e,hv⟩:=hr x O' d;subst e;exact ⟨J,y,[],a,hv _ _ b,c,rfl⟩
theorem sj {tp te:TypeId} {j:TypeInfo} (a:Addr) (hp:P.underlying tp=some (.pointer te)) (hte:P.info? te=some j) (w:World) :
  (binOp .neq tp (.pointer (some a)) (.pointer none)).run P w=.ok (.bool true) w:=by
 have h:∀d:Nat,(Op.equalIn (d+1) tp (.pointer (some a)) (.pointer none)).run P w=.ok false w:=fun d=>by
  simp[Op.equalIn,run_underlying hp,sizeOf,typeInfo,hte]
 simp only[binOp];simp[Op.equal,Op.maxDepth,h 9999]
variable {d ty:Nat} {pos:String} {af:Array Edge} {x y z:Operand} {t u e T:TypeId}
theorem Gv.neqPf {cs:List AV} {j:TypeInfo} (hp:P.underlying t=some (.pointer e)) (hte:P.info? e=some j) (hx:bd env x=.pf cs):Gv P env O (Oper.mk (some d) (.binOp .neq t x (.const (.pointer none)) u) ty pos af none) (.bool true):=Gv.ofEv fun I ρ h=>by
 have h1:=h.ev x;rw[hx] at h1;obtain ⟨b,off,vs,e1,_⟩:=h1;exact ⟨_,rfl,fun w=>by
  have e2:Go.Proofs.YtbbonnfjealmpaaGreatDoor.ev ρ (.const (.pointer none))=.pointer none:=rfl;simp only[execOp,e1,e2];simp[eqGuard,sj _ hp hte]⟩
end
end
section
open Go.Proofs.Tryz
open Go.Proofs
variable {E:World}
set_option maxRecDepth 20000
theorem AC (xs:List Int) (v:Int) (i:Nat) (T:TypeId) (hl:xs.length≤281474976710656):aX prog E 204 [.j i xs.length,.i v] [(i,.u 1 T (cI xs))] fun r O=>r=.i (di (fun x=>decide (v=x)) xs 0)∧O=[(i,.u 1 T (cI xs))]:=by
 refine zm func204 U (by decide) U<|Z<|ap U<|Y<|za<|Z<|bX U<|X (qm j7 U)<|C U<|Y<|zd<|zu (γ:=Nat) [0,1,7] (fun k=>[(8,.i k)]) (fun k=>[(i,.u 1 T (cI xs))]) (fun k=>k≤xs.length∧(xs.take k).all (fun x=>!decide (v=x))) (fun k=>xs.length - k) 0 aN aJ (⟨qw _,U⟩) ?_;rintro k ⟨hk,hall⟩;refine Z<|aq U U<|Y<|za<|zh U (fun ck=>?_) (fun ck=>?_)
 ·have hk2:k<xs.length:=by simp at ck;omega
  refine zc<|za<|zd<|Z<|C U<|ap U<|Y<|Z<|C U<|bX U<|C U<|X (y7 (j:=k) j7 j9 U U U ⟨_,.head⟩ (by first|rfl|(simp[aH,aP];done)|(simp[aH,aP];omega)) hk2)<|X (yp (j:=k) jg U ⟨_,.head⟩ (qt hk2))<|au U U<|Y<|zq U (fun cp=>?_) (fun cp=>?_)
  ·refine Z<|C U<|ap U<|Y<|zf ?_
   repeat (first|refine ad ?_|refine aa ?_)
   refine gu U ?_;exact ⟨by rw[cH _ xs k hk hall,List.drop_eq_getElem_cons hk2,di,if_pos (by simpa using cp)],rfl⟩
  refine zc<|bQ U U ?_;exact ⟨k+1,eX,aN,aJ,⟨hk2,by rw[qu hk2,List.all_append,hall];simpa using cp⟩,by omega⟩
 have hkn:k=xs.length:=by simp at ck;omega
 refine zt<|Z<|ap U<|Y<|zf ?_
 repeat (first|refine ad ?_|refine aa ?_)
 refine gu U ?_;exact ⟨by rw[cH _ xs k hk hall,hkn,List.drop_length,di],rfl⟩
theorem tV (xs:List Int) (v:Int) (i:Nat) (T:TypeId) (hl:xs.length≤281474976710656):aX prog E 166 [.j i xs.length,.i v] [(i,.u 1 T (cI xs))] fun r O=>r=.bool (xs.contains v)∧O=[(i,.u 1 T (cI xs))]:=by
 refine zm func166 U (by decide) U<|Z<|ah U<|Y<|Z<|bX U<|C U<|zy U (zk (.l (.rest _))) (AC xs v i T hl) ?_;rintro r7 O7 ⟨rfl,rfl⟩;refine X (q7 U U)<|ah U<|Y<|zf ?_
 repeat (first|refine ad ?_|refine aa ?_)
 refine bt U ?_;exact ⟨by rw[gE];congr 1;rw[w4];simp,rfl⟩
theorem tW (xs:List Int) (v:Int) (i:Nat) (T:TypeId) (hl:xs.length≤281474976710656):aX prog E 166 [.j i xs.length,.int .i64 v] [(i,.u eI.k T (eI.av xs))] fun r O=>r=.bool (xs.contains v)∧O=[(i,.u eI.k T (eI.av xs))]:=by rw[G5];exact tV xs v i T hl
theorem FL (l:List Int) (i:Nat) (T:TypeId) (hl:l.length≤200000):aX prog E 167 [.j i l.length] [(i,.u eI.k T (eI.av l))] fun r O=>r=.tup []∧O=[(i,.u eI.k T (eI.av (mo l)))]:=by rw[G5,G5];exact Ab l i T hl
def yW (n:Nat) (rows:List (List Int)):Prop:=rows.length=n∧∀r∈rows,r.Nodup∧∀x∈r,0≤x∧x<n
theorem yW.len {n:Nat} {rows:List (List Int)} (h:yW n rows) {r:List Int} (hr:r∈rows):r.length≤n:=by
 have:=nC r (ba n) (h.2 r hr).1 fun x hx=>dR.2 ((h.2 r hr).2 x hx)
 rwa [cA] at this
theorem yW.push {n:Nat} {rows:List (List Int)} (h:yW n rows) {j:Nat} (hj:j<rows.length) {b:Int} (h0:0≤b) (hb:b<n) (hn:b ∉ rows[j]):yW n (rows.set j (rows[j]++[b])):=by
 refine ⟨by rw[List.length_set];exact h.1,fun r hr=>?_⟩;rcases List.mem_or_eq_of_mem_set hr with hr|rfl
 ·exact h.2 r hr
 obtain ⟨g1,g2⟩:=h.2 _ (qx hj);refine ⟨List.nodup_append.2 ⟨g1,by simp,fun x hx y hy e=>?_⟩,fun x hx=>?_⟩
 ·simp at hy;subst hy;subst e;exact hn hx
 rcases List.mem_append.1 hx with hx|hx
 ·exact g2 x hx
 simp at hx;subst hx;exact ⟨h0,hb⟩
theorem yW.sort {n:Nat} {rows:List (List Int)} (h:yW n rows) {j:Nat} (hj:j<rows.length):yW n (rows.set j (mo rows[j])):=by
 refine ⟨by rw[List.length_set];exact h.1,fun r hr=>?_⟩;rcases List.mem_or_eq_of_mem_set hr with hr|rfl
 ·exact h.2 r hr
 obtain ⟨g1,g2⟩:=h.2 _ (qx hj);exact ⟨(fO _).nodup_iff.2 g1,fun x hx=>g2 x ((fO _).mem_iff.1 hx)⟩
theorem yW.begin (n:Nat):yW n (List.replicate n []):=⟨by simp,fun r hr=>by rw[List.eq_of_mem_replicate hr];exact ⟨by simp,fun x hx=>by cases hx⟩⟩
section
variable {S:Int→List Int} {n:Nat} (hG:gx S n)
include hG
theorem AD {c p:Int} (hc:c∈aI S n) (hp:p∈aI S n) (he:c∈S p):c=0∨jQ (gi (db S n)) p (gi (db S n) c):=by
 by_cases h0:c=0
 ·exact .inl h0
 right
 have hX:=hG.exact;have hO:=hG.gok.ord;have hb:=hX.has c hc;obtain ⟨g1,g2,g3⟩:=hX.inv.near c h0 hb;have hd:g9 S (gi (db S n) c) c:=(hX.anc c _ hc).1 (.up h0 hb (.refl _));exact (hX.anc p _ hp).2 (hd.pred ((hO.mem p).1 hp) he (fun e=>by rw[e] at g3;omega))
theorem CX {c y:Int} (hc:c∈aI S n) (hy:(y∈aI S n∧(c=0∨jQ (gi (db S n)) y (gi (db S n) c)))∨(c=0∧y=-1)) (hne:y≠gi (bA S n) c) :
  y∈aI S n∧((gi (bA S n) y∈aI S n∧(c=0∨jQ (gi (db S n)) (gi (bA S n) y) (gi (db S n) c)))∨(c=0∧gi (bA S n) y=-1))∧0<(gi (cM S n) y+1).toNat∧(gi (cM S n) (gi (bA S n) y)+1).toNat<(gi (cM S n) y+1).toNat:=by
 have hO:=hG.gok.ord;have hpos:=hG.npos;have hyV:y∈aI S n:=by
  rcases hy with h|⟨h1,h2⟩
  ·exact h.1
  exact absurd (by rw[h2,h1,xP hpos]) hne
 have hl:=hG.lev_nn hyV;have hy0:=hO.nn y hyV;refine ⟨hyV,?_⟩
 by_cases h0:y=0
 ·subst h0;rw[xP hpos];have hc0:c=0:=by
   rcases hy with ⟨_,h|h⟩|h
   ·exact h
   ·rcases h.cases' with e|⟨e,_⟩
    ·by_cases hc0:c=0
     ·exact hc0
     have:=hO.nn c hc;exact absurd (by rw[iy this hc0,←e]) hne
    exact absurd rfl e
   exact h.1
  have hm:gi (cM S n) (-1)=-1:=CG (.inl (by omega));exact ⟨.inr ⟨hc0,rfl⟩,by omega,by rw[hm];omega⟩
 rw[iy hy0 h0];obtain ⟨g1,g2⟩:=hG.near_mem hyV h0;have g3:=hG.lev_near hyV h0;have g4:=hG.lev_nn g1;refine ⟨.inl ⟨g1,?_⟩,by omega,by omega⟩;rcases hy with ⟨_,h|h⟩|h
 ·exact .inl h
 ·rcases h.cases' with e|⟨_,_,h3⟩
  ·by_cases hc0:c=0
   ·exact .inl hc0
   have:=hO.nn c hc;exact absurd (by rw[iy this hc0,e]) hne
  exact .inr h3
 exact .inl h.1
end
theorem AE (f:ab) (hE:cK f) (hn:f.q.length≤1000) (t a b fb:Nat) (T:TypeId) (x:AV) (rows:List (List Int)) (hF:yW f.q.length rows) :
  aX prog E 117 [.po t 0,.fro 1 ((aI (aj f) f.q.length).map b7),sd eI (dJ f f.q.length)]
   [(0,dN eI 23 3 fb rows),(t,.cells 193 [.j a f.q.length,.j b f.q.length,x,fe fb f.q.length]),(b,.u 1 3 (cI (cM (aj f) f.q.length))),(a,.u 1 3 (cI (bA (aj f) f.q.length)))]
   fun r O=>r=.tup []∧∃rows',yW f.q.length rows'∧O=[(0,dN eI 23 3 fb rows'),(t,.cells 193 [.j a f.q.length,.j b f.q.length,x,fe fb f.q.length]),(b,.u 1 3 (cI (cM (aj f) f.q.length))),(a,.u 1 3 (cI (bA (aj f) f.q.length)))]:=by
 have hG:=hE.grph;have hpos:=hG.npos;have hol:=gH hG;have hrowP:∀k,k<f.q.length→(dJ f f.q.length)[k]?=some (bm (aj f) f.q.length (k:Int)):=fun k h=>oC f h;have hpl:∀b,(bm (aj f) f.q.length b).length≤2*f.q.length:=fun b=>ke f b _;obtain ⟨n,hnn⟩:∃n,f.q.length=n:=⟨_,rfl⟩;obtain ⟨S,hS⟩:∃S,aj f=S:=⟨_,rfl⟩;rw[hnn] at hG hpos hol hn hrowP hpl hF ⊢;rw[hS] at hG hol hrowP hpl ⊢;obtain ⟨V,hVe⟩:∃V,aI S n=V:=⟨_,rfl⟩;have hVr:∀y∈V,0≤y∧y<n:=fun y hy=>da hG.toEOk (hVe▸hy);have hX:=hG.exact;have hO:=hG.gok.ord;have hlev:=hG.lev;rw[hVe] at hX hO hol ⊢;have hLl:(cM S n).length=n:=hlev.len;have hRl:(bA S n).length=n:=gI S n;have hLg:∀y:Int,0≤y→y<n→(cM S n)[y.toNat]?=some (gi (cM S n) y):=fun y h1 h2=>ie h1 (by omega);have hNg:∀y:Int,0≤y→y<n→(bA S n)[y.toNat]?=some (gi (bA S n) y):=fun y h1 h2=>ie h1 (by rw[gI];omega)
 refine zm func117 U (by decide) U<|za<|Z<|bj U<|am j7 U<|C U<|Y<|zd<|zu (γ:=Nat × List (List Int)) [0,2,12,13] (fun g=>[(14,.i g.1)]) (fun g=>[(0,dN eI 23 3 fb g.2),(t,.cells 193 [.j a n,.j b n,x,fe fb n]),(b,.u 1 3 (cI (cM S n))),(a,.u 1 3 (cI (bA S n)))]) (fun g=>g.1≤V.length∧yW n g.2) (fun g=>V.length - g.1) (0,rows) aN aJ (⟨qw _,hF⟩) ?_;rintro ⟨k,rows⟩ ⟨hk,hF⟩;try dsimp only at *
 refine Z<|aq U U<|Y<|za<|zh U (fun ck=>?_) (fun ck=>?_)
 ·have hk2:k<V.length:=by simp at ck;omega
  obtain ⟨c,hc⟩:∃c,V[k]=c:=⟨_,rfl⟩;have hcV:c∈V:=hc▸qx hk2;obtain ⟨hc0,hcn⟩:=hVr c hcV;have hrow:(dJ f n)[c.toNat]?=some (bm S n c):=by
   have:=hrowP c.toNat (by omega)
   rwa [show ((c.toNat:Nat):Int)=c by omega] at this
  have hpc:=hpl c;have hpr:∀p∈bm S n c,0≤p∧p<n:=fun p hp=>wF hG hp;have hpS:∀p∈bm S n c,c∈S p:=fun p hp=>(hG.gok.preds c (by rw[hVe];exact hcV) p).1 hp;obtain ⟨ps,hps⟩:∃ps,bm S n c=ps:=⟨_,rfl⟩;rw[hps] at hrow hpc hpr hpS;refine zc<|za<|zd<|Z<|X (bD k j7 j9 U U U (by rw[qt hk2,hc])) ?_;refine aD jg U<|ap U<|Y<|Z<|bj U<|C U<|X (bD c.toNat Zg jh U U (by omega) hrow)<|aK jy U<|am j7 U<|C U<|Y<|zd<|zu (γ:=Nat × List (List Int)) [0,2,7,12,13,14,21,22] (fun g=>[(23,.i g.1)]) (fun g=>[(0,dN eI 23 3 fb g.2),(t,.cells 193 [.j a n,.j b n,x,fe fb n]),(b,.u 1 3 (cI (cM S n))),(a,.u 1 3 (cI (bA S n)))]) (fun g=>g.1≤ps.length∧yW n g.2) (fun g=>ps.length - g.1) (0,rows) aN aJ (⟨qw _,hF⟩) ?_;rintro ⟨j,rows⟩ ⟨hj,hF⟩;try dsimp only at *
  refine Z<|aq U U<|Y<|za<|zh U (fun cj=>?_) (fun cj=>?_)
  ·have hj2:j<ps.length:=by simp at cj;omega
   obtain ⟨p,hp⟩:∃p,ps[j]=p:=⟨_,rfl⟩;obtain ⟨hp0,hpn⟩:=hpr p (hp▸qx hj2);have hpc2:=hpS p (hp▸qx hj2);refine zc<|za<|zd<|Z<|X (bD j j7 j9 U U U (by rw[qt hj2,hp])) ?_;refine aD jg U<|ap U<|Y<|za<|Z<|bf U<|aC U<|X (ze Zj U jh (by decide) U U)<|X (zj (c:=.j _ _) jy U ⟨_,.t1⟩ U)<|C U<|X (y7 (j:=p.toNat) j7 j9 U U (by omega) ⟨_,.t2⟩ (by first|rfl|(simp[aH,aP];done)|(simp[aH,aP];omega)) (by omega))<|X (yp (j:=p.toNat) jg U ⟨_,.t2⟩ (hLg p hp0 hpn))<|au U U<|Y<|zq U (fun cl=>?_) (fun cl=>?_)
   ·refine zt<|bQ U U ?_;exact ⟨(j+1,rows),rY,aN,aJ,⟨hj2,hF⟩,by dsimp only;omega⟩
   have hpV:p∈V:=by have h0:¬gi (cM S n) p=-1:=(by simpa using cl);rw[←hVe];exact (hG.lev_mem p).1 h0
   refine zc<|Z<|C U<|ap U<|Y<|zd<|zu (γ:=Int × List (List Int)) [0,2,7,12,13,14,21,22,23] (fun g=>[(10,.i g.1)]) (fun g=>[(0,dN eI 23 3 fb g.2),(t,.cells 193 [.j a n,.j b n,x,fe fb n]),(b,.u 1 3 (cI (cM S n))),(a,.u 1 3 (cI (bA S n)))]) (fun g=>((g.1∈V∧(c=0∨jQ (gi (db S n)) g.1 (gi (db S n) c)))∨(c=0∧g.1=-1))∧yW n g.2) (fun g=>(gi (cM S n) g.1+1).toNat) (p,rows) aN aJ (⟨.inl ⟨hpV,AD hG (by rw[hVe];exact hcV) (by rw[hVe];exact hpV) hpc2⟩,hF⟩) ?_;rintro ⟨y,rows⟩ ⟨hy,hF⟩;try dsimp only at *
   refine za<|Z<|C U<|bf U<|aC U<|X (ze Zj U jh (by decide) U U)<|X (zj (c:=.j _ _) jy U ⟨_,.t1⟩ U)<|C U<|X (y7 (j:=c.toNat) j7 j9 U U (by omega) ⟨_,.t3⟩ (by first|rfl|(simp[aH,aP];done)|(simp[aH,aP];omega)) (by omega))<|X (yp (j:=c.toNat) jg U ⟨_,.t3⟩ (hNg c hc0 hcn))<|aT U U<|Y<|zq U (fun cy=>?_) (fun cy=>?_)
   ·have hne:y≠gi (bA S n) c:=by simpa using cy
    obtain ⟨hyV,hnx,hms⟩:=CX hG (hVe▸hcV) (by rw[hVe];exact hy) hne;rw[hVe] at hyV hnx;obtain ⟨hy0,hyn⟩:=hVr y hyV;have hyl:y.toNat<rows.length:=by rw[hF.1];omega
    have hrl:=hF.len (qx hyl);refine zc<|za<|zd<|Z<|bf U<|aC U<|X (ze Zj U sizeOf74 (by decide) U U)<|X (zj (c:=fe _ _) isAgg74 U ⟨_,.t1⟩ U)<|C U<|X (qn (j:=y.toNat) Zg jh U U (by omega) (by omega))<|qg (j:=y.toNat) (r:=rows[y.toNat]) jy U (qt hyl) (fun _=>.head)<|fun i58=>C U<|zy U (zk (.l (.r (.r (.r (.r (.rest _))))))) (tW rows[y.toNat] c i58 _ (by omega)) ?_;rintro r60 O60 ⟨rfl,rfl⟩;refine aL U<|y9 (aR.nestBack (r:=rows[y.toNat]) .head .head) ?_;rw[List.set_getElem_self];refine Y<|zq U (fun cin=>?_) (fun cin=>?_)
    ·have hnin:c ∉ rows[y.toNat]:=by simpa using cin
     refine y3 (γ:=Unit) [0,2,7,10,12,13,14,21,22,23] (fun u=>[]) (fun u=>[(t,.cells 193 [.j a n,.j b n,x,fe fb n]),(b,.u 1 3 (cI (cM S n))),(a,.u 1 3 (cI (bA S n))),(0,dN eI 23 3 fb (rows.set y.toNat (rows[y.toNat]++[c])))]) (fun u=>True) ?_ (fun _ _ h=>h) ?_
     ·refine zn (fun j=>Nat.beq j 16) (by kernel_rfl) U (zk (.l (.r (.r (.r (.rest _))))))<|D 0 U (dZ U)<|D 1 U (zr U)<|D 2 U (ze Zj U sizeOf74 (by decide) U U)<|D 3 U (zj (c:=fe _ _) isAgg74 U ⟨_,.head⟩ U)<|D 4 U (dC U)<|D 5 U (dZ U)<|D 6 U (zr U)<|D 7 U (ze Zj U sizeOf74 (by decide) U U)<|D 8 U (zj (c:=fe _ _) isAgg74 U ⟨_,.head⟩ U)<|D 9 U (dC U)<|D 10 U (qn (j:=y.toNat) Zg jh U U (by omega) (by omega))<|D 12 U (dC U)<|yq (i:=11) (j:=13) U U (by kernel_rfl) ?_ ?_
      ·refine qg (j:=y.toNat) (r:=rows[y.toNat]) jy U (qt hyl) (fun _=>.head)<|fun i73=>Y<|bp 13 U<|zw (rows:=[[_]]) ed U U U U U<|Y<|bp 14 U<|yb (k:=1) j7 Y6 U U U U U (fun _=>.head) (by rw[eI.av_len];rfl) (by decide) U (by show (_+1)*8≤_;omega) (by show _+1≤_;omega)<|fun i76=>Y<|D 15 U (qn (j:=y.toNat) Zg jh U U (by omega) (by omega))<|y4<|yg (i:=16) U (by kernel_rfl) (by kernel_rfl)<|qo (j:=y.toNat) (r:=rows[y.toNat]++[c]) jh U U (by omega) .t3 .t3 U (eI.av_push _ _) (by simp)<|Y<|y8 (by kernel_rfl) ?_;exact ⟨(),jX,trivial,aJ,trivial⟩
      refine zw (rows:=[[_]]) ed U U U U U<|Y<|bp 11 U<|qg (j:=y.toNat) (r:=rows[y.toNat]) jy U (qt hyl) (fun _=>.head)<|fun i73=>Y<|bp 14 U<|yb (k:=1) j7 Y6 U U U U U (fun _=>.head) (by rw[eI.av_len];rfl) (by decide) U (by show (_+1)*8≤_;omega) (by show _+1≤_;omega)<|fun i76=>Y<|D 15 U (qn (j:=y.toNat) Zg jh U U (by omega) (by omega))<|y4<|yg (i:=16) U (by kernel_rfl) (by kernel_rfl)<|qo (j:=y.toNat) (r:=rows[y.toNat]++[c]) jh U U (by omega) .t3 .t3 U (eI.av_push _ _) (by simp)<|Y<|y8 (by kernel_rfl) ?_;exact ⟨(),jX,trivial,aJ,trivial⟩
     rintro _ _;refine gd .t3<|bZ<|bf U<|aC U<|X (ze Zj U jh (by decide) U U)<|X (zj (c:=.j _ _) jy U ⟨_,.t1⟩ U)<|C U<|X (y7 (j:=y.toNat) j7 j9 U U (by omega) ⟨_,.t3⟩ (by first|rfl|(simp[aH,aP];done)|(simp[aH,aP];omega)) (by omega))<|X (yp (j:=y.toNat) jg U ⟨_,.t3⟩ (hNg y hy0 hyn))<|ap U<|Y ?_;exact ⟨(gi (bA S n) y,rows.set y.toNat (rows[y.toNat]++[c])),p9,aN,aJ,⟨hnx,hF.push hyl hc0 hcn hnin⟩,by dsimp only;omega⟩
    refine zc<|bZ<|bf U<|aC U<|X (ze Zj U jh (by decide) U U)<|X (zj (c:=.j _ _) jy U ⟨_,.t1⟩ U)<|C U<|X (y7 (j:=y.toNat) j7 j9 U U (by omega) ⟨_,.t3⟩ (by first|rfl|(simp[aH,aP];done)|(simp[aH,aP];omega)) (by omega))<|X (yp (j:=y.toNat) jg U ⟨_,.t3⟩ (hNg y hy0 hyn))<|ap U<|Y ?_;exact ⟨(gi (bA S n) y,rows),p9,aN,aJ,⟨hnx,hF⟩,by dsimp only;omega⟩
   refine zt<|bQ U U ?_;exact ⟨(j+1,rows),rY,aN,aJ,⟨hj2,hF⟩,by dsimp only;omega⟩
  refine zt<|bQ U U ?_;exact ⟨(k+1,rows),f7,aN,aJ,⟨hk2,hF⟩,by dsimp only;omega⟩
 refine zt<|Z<|bf U<|aC U<|X (ze Zj U sizeOf74 (by decide) U U)<|X (zj (c:=fe _ _) isAgg74 U ⟨_,.t1⟩ U)<|X (Gv.lenN Zg U)<|C U<|Y<|zd<|zu (γ:=Nat × List (List Int)) [0,84] (fun g=>[(85,.i g.1)]) (fun g=>[(0,dN eI 23 3 fb g.2),(t,.cells 193 [.j a n,.j b n,x,fe fb n]),(b,.u 1 3 (cI (cM S n))),(a,.u 1 3 (cI (bA S n)))]) (fun g=>g.1≤n∧yW n g.2) (fun g=>n - g.1) (0,rows) aN aJ (⟨qw _,hF⟩) ?_;rintro ⟨m,rows⟩ ⟨hm,hF⟩;try dsimp only at *
 refine Z<|aq U U<|Y<|za<|zh U (fun cm=>?_) (fun cm=>?_)
 ·have hm2:m<n:=by simp at cm;omega
  have hml:m<rows.length:=by rw[hF.1];omega
  have hrl:=hF.len (qx hml);refine zc<|za<|zd<|Z<|C U<|ap U<|Y<|bZ<|bf U<|aC U<|X (ze Zj U sizeOf74 (by decide) U U)<|X (zj (c:=fe _ _) isAgg74 U ⟨_,.t1⟩ U)<|C U<|X (qn (j:=m) Zg jh U U U (by omega))<|qg (j:=m) (r:=rows[m]) jy U (qt hml) (fun _=>.head)<|fun i94=>zy U (zk (.l (.r (.r (.r (.r (.rest _))))))) (FL rows[m] i94 _ (by omega)) ?_;rintro r95 O95 ⟨rfl,rfl⟩;refine Y<|yd (aR.nestBackN (r:=mo rows[m]) (fO _).length_eq .head .head)<|bQ U U ?_;exact ⟨(m+1,rows.set m (mo rows[m])),cV,aN,aJ,⟨hm2,hF.sort hml⟩,by dsimp only;omega⟩
 refine zt<|yu ?_;exact ⟨rfl,rows,hF,rfl⟩
def tX (f:ab) (x y:AV):AV:=.pf [.fro 1 ((bA (aj f) f.q.length).map b7),.fro 1 ((cM (aj f) f.q.length).map b7),x,y]
theorem wG (lev:List Int) (b:Int) (x0 x2 x3:AV) (hl:lev.length≤1000):aS prog E 168 [.pf [x0,.fro 1 (lev.map b7),x2,x3],.i b] (.bool (decide (gi lev b≠-1))):=by
 refine zm func168 U (by decide) U<|Z<|ah U<|Y<|Z<|X (nT U)<|X (Gv.neqPf underlying143 type193 U)<|aw U<|M U U U<|C U<|M U U U<|X (q7 U U)<|aA U U U<|aw U<|zo (s:=11) U (fun c0=>?_) (fun c0=>?_)
 ·have h0:0≤b:=by simpa using c0
  refine M U U c0<|C U<|M U U c0<|X (nT U)<|M U U c0<|X (q5 U)<|M U U c0<|ao Zj U jh U U<|M U U c0<|aK jy U<|M U U c0<|am j7 U<|M U U c0<|aq U U<|aA U c0 U<|aw U<|zo (s:=20) U (fun c1=>?_) (fun c1=>?_)
  ·have h1:b<lev.length:=by simpa using c1
   have hg:lev[b.toNat]?=some (gi lev b):=ie h0 (by omega);refine M U U c1<|X (nT U)<|M U U c1<|X (q5 U)<|M U U c1<|ao Zj U jh U U<|M U U c1<|aK jy U<|M U U c1<|C U<|M U U c1<|X (bD b.toNat j7 j9 U U (by omega) hg)<|M U U c1<|aD jg U<|M U U c1<|aT U U<|aA U c1 U<|ah U<|Y<|zf ?_
   repeat (first|refine ad ?_|refine aa ?_)
   refine bt U ?_;simp
  have h1:¬b<lev.length:=by simpa using c1
  refine H U U c1<|H U U c1<|H U U c1<|H U U c1<|H U U c1<|H U U c1<|H U U c1<|H U U c1<|ay U c1 U<|ah U<|Y<|zf ?_
  repeat (first|refine ad ?_|refine aa ?_)
  refine bt U ?_;rw[CG (.inr (by omega))];rfl
 have h0:¬0≤b:=by simpa using c0
 refine H U U c0<|H U U c0<|H U U c0<|H U U c0<|H U U c0<|H U U c0<|H U U c0<|ay U c0 U<|aw U<|H U U U<|H U U U<|H U U U<|H U U U<|H U U U<|H U U U<|H U U U<|H U U U<|ay U U U<|ah U<|Y<|zf ?_
 repeat (first|refine ad ?_|refine aa ?_)
 refine bt U ?_;rw[CG (.inl (by omega))];rfl
section
variable {S:Int→List Int} {n:Nat} (hG:gx S n)
include hG
theorem FM {a b:Int} (ha:a∈aI S n) (hb:b∈aI S n) (hlt:gi (cM S n) a<gi (cM S n) b) :
  b≠0∧gi (bA S n) b∈aI S n∧gi (cM S n) b=gi (cM S n) (gi (bA S n) b)+1∧mU S n a b=mU S n a (gi (bA S n) b):=by
 have hO:=hG.gok.ord;have hla:=hG.lev_nn ha;have hl0:gi (cM S n) 0=0:=hG.lev.zero;have hb0:b≠0:=fun e=>by rw[e,hl0] at hlt;omega
 obtain ⟨g1,g2⟩:=hG.near_mem hb hb0;have g3:=hG.lev_near hb hb0;rw[iy (hO.nn b hb) hb0];refine ⟨hb0,g1,g3,?_⟩;rw[w4,hG.domB_iff,hG.domB_iff,hG.dom_iff hb,hG.dom_iff g1]
 constructor
 ·intro h;rcases h.cases' with e|⟨_,_,h3⟩
  ·rw[e] at hlt;omega
  exact h3
 intro h;exact .up hb0 (hG.exact.has b hb) h
theorem HT {a b:Int} (hb:b∈aI S n) (hge:¬gi (cM S n) a<gi (cM S n) b):mU S n a b=decide (a=b):=by
 rw[w4,hG.domB_iff,hG.dom_iff hb,wi]
 constructor
 ·intro h;exact (hG.lev_anc hb h).2.2 (by omega)
 rintro rfl;exact .refl _
theorem wH {a b:Int} (h:a ∉ aI S n∨b ∉ aI S n):mU S n a b=false:=by
 rw[Bool.eq_false_iff];intro hd;have hd:=(hG.domB_iff a b).1 hd;have hb:b∈aI S n:=(hG.gok.ord.mem b).2 hd.1;have ha:a∈aI S n:=(hG.lev_anc hb ((hG.dom_iff hb).1 hd)).1;rcases h with h|h
 ·exact h ha
 exact h hb
end
theorem FN (f:ab) (hE:cK f) (hn:f.q.length≤1000) (a b:Int) (x y:AV):aS prog E 119 [tX f x y,.i a,.i b] (.bool (mU (aj f) f.q.length a b)):=by
 have hG:=hE.grph;have hol:=gH hG;have hO:=hG.gok.ord;have hrng:∀z∈aI (aj f) f.q.length,0≤z∧z<f.q.length:=fun z hz=>da hG.toEOk hz;have hLl:(cM (aj f) f.q.length).length=f.q.length:=hG.lev.len;have hLg:∀z:Int,0≤z→z<f.q.length→(cM (aj f) f.q.length)[z.toNat]?=some (gi (cM (aj f) f.q.length) z):=fun z h1 h2=>ie h1 (by omega);have hNg:∀z:Int,0≤z→z<f.q.length→(bA (aj f) f.q.length)[z.toNat]?=some (gi (bA (aj f) f.q.length) z):=fun z h1 h2=>ie h1 (by rw[gI];omega);unfold tX;refine zm func119 U (by decide) U<|Z<|ah U<|Y<|za<|Z<|X (nT U)<|C U<|zb (wG (cM (aj f) f.q.length) a _ x y (by omega)) U<|aL U<|aw U<|zo (s:=11) U (fun ca=>?_) (fun ca=>?_)
 ·have ha:a ∉ aI (aj f) f.q.length:=by have h0:gi (cM (aj f) f.q.length) a=-1:=(by simpa using ca);exact fun h=>(hG.lev_mem a).2 h h0
  refine H U U ca<|H U U ca<|H U U ca<|H U U ca<|aA U ca U<|Y<|ym U U<|Z<|ah U<|Y<|zf ?_
  repeat (first|refine ad ?_|refine aa ?_)
  refine bt U ?_;rw[wH hG (.inl ha)]
 have ha:a∈aI (aj f) f.q.length:=by have h0:¬gi (cM (aj f) f.q.length) a=-1:=(by simpa using ca);exact (hG.lev_mem a).1 h0
 refine M U U ca<|X (nT U)<|M U U ca<|C U<|M U U ca<|zb (wG (cM (aj f) f.q.length) b _ x y (by omega)) U<|M U U ca<|aL U<|ay U ca U<|Y<|zq U (fun cb=>?_) (fun cb=>?_)
 ·have hb:b ∉ aI (aj f) f.q.length:=by have h0:gi (cM (aj f) f.q.length) b=-1:=(by simpa using cb);exact fun h=>(hG.lev_mem b).2 h h0
  refine Z<|ah U<|Y<|zf ?_
  repeat (first|refine ad ?_|refine aa ?_)
  refine bt U ?_;rw[wH hG (.inr hb)]
 have hb:b∈aI (aj f) f.q.length:=by have h0:¬gi (cM (aj f) f.q.length) b=-1:=(by simpa using cb);exact (hG.lev_mem b).1 h0
 obtain ⟨ha0,han⟩:=hrng a ha;refine zc<|za<|zd<|zu (γ:=Int) [0,1] (fun c=>[(2,.i c)]) (fun c=>[]) (fun c=>c∈aI (aj f) f.q.length∧mU (aj f) f.q.length a b=mU (aj f) f.q.length a c) (fun c=>(gi (cM (aj f) f.q.length) c).toNat) b aN aJ (⟨hb,U⟩) ?_;rintro c ⟨hc,hd⟩;obtain ⟨hc0,hcn⟩:=hrng c hc;have hl:=hG.lev_nn hc;refine za<|za<|zn (fun j=>false) (by kernel_rfl) U (zk (.rest _))<|D 0 U (nT U)<|D 1 U (q5 U)<|D 2 U (dk Zj U jh U U)<|D 3 U (gJ jy U)<|D 4 U (dC U)<|D 5 U (bD c.toNat j7 j9 U U (by omega) (hLg c hc0 hcn))<|D 6 U (d9 jg U)<|D 7 U (nT U)<|D 8 U (q5 U)<|D 9 U (dk Zj U jh U U)<|D 10 U (gJ jy U)<|D 11 U (dC U)<|D 12 U (bD a.toNat j7 j9 U U (by omega) (hLg a ha0 han))<|D 13 U (d9 jg U)<|D 14 U (Gv.gtr U U)<|dS<|zq U (fun cc=>?_) (fun cc=>?_)
 ·have hlt:gi (cM (aj f) f.q.length) a<gi (cM (aj f) f.q.length) c:=by simpa using cc
  obtain ⟨s1,s2,s3,s4⟩:=FM hG ha hc hlt;refine zc<|zd<|bZ<|X (nT U)<|X (q5 U)<|ao Zj U jh U U<|aK jy U<|C U<|X (bD c.toNat j7 j9 U U (by omega) (hNg c hc0 hcn))<|aD jg U<|ap U<|Y ?_;exact ⟨gi (bA (aj f) f.q.length) c,cV,aN,aJ,⟨s2,by rw[hd,s4]⟩,by have:=hG.lev_nn s2;omega⟩
 have hge:¬gi (cM (aj f) f.q.length) a<gi (cM (aj f) f.q.length) c:=by simpa using cc
 refine zt<|Z<|C U<|C U<|au U U<|ah U<|Y<|zf ?_
 repeat (first|refine ad ?_|refine aa ?_)
 refine bt U ?_;rw[hd,HT hG hc hge]
end
section
open Go.Proofs.Tryz
open Go.Proofs Go.Lib Go.Shelf Go.RowKit
variable {E:World}
set_option maxRecDepth 20000
def jC (S:Int→List Int) (n q:Nat):List Int:=(((aI S n).drop 1).take q).foldl (zT (db S n)) (gv n)
theorem CY {S:Int→List Int} {n q:Nat} (h:q<((aI S n).drop 1).length):jC S n (q+1)=zT (db S n) (jC S n q) ((aI S n).drop 1)[q]:=by
 unfold jC;rw[qu h,List.foldl_append];rfl
theorem FO (S:Int→List Int) (n:Nat):jC S n ((aI S n).drop 1).length=cM S n:=by unfold jC cM;rw[qy,List.drop_one]
theorem wI (S:Int→List Int) (n q:Nat):(jC S n q).length=n:=by unfold jC;rw[qL (fun l x=>zU _ l x),ou]
theorem KO {S:Int→List Int} {n:Nat} (hE:EOk S n) {b:Int} (hb:b∈(aI S n).drop 1):b≠0:=by
 have h1:=oq hE;have h2:=kG hE;cases h:aI S n with
 |nil=>rw[h] at h1;simp at h1
 |cons z zs=>
  rw[h] at h1 h2 hb;simp at h1;subst h1;intro e;subst e;exact (List.nodup_cons.1 h2).1 (by simpa using hb)
theorem FP {S:Int→List Int} {n:Nat} (hE:EOk S n):0<(aI S n).length:=by
 have h1:=oq hE;cases h:aI S n with
 |nil=>rw[h] at h1;simp at h1
 |cons z zs=>simp
def yX (N:List Int) (k:Nat):List (Int × Int):=((ba k).filter fun b=>decide (gi N b≠-1)).map fun b=>(gi N b,b)
theorem AF (N:List Int) (k:Nat):yX N (k+1)=yX N k++if gi N (k:Int)≠-1 then[(gi N (k:Int),(k:Int))] else[]:=by
 unfold yX;rw[rA,List.filter_append,w7]
 by_cases h:gi N (k:Int)=-1<;>simp[h]
theorem KP (N:List Int) (k:Nat):(yX N k).length≤k:=by
 unfold yX;rw[w2];exact Nat.le_trans (List.length_filter_le _ _) (by rw[cA];exact Nat.le_refl _)
def En (f:ab):List (List Int):=cZ f.q.length (yX (bA (aj f) f.q.length) f.q.length)
theorem HU {S:Int→List Int} {n:Nat} (hG:gx S n) {b:Int} (h0:0≤b) (hb:gi (bA S n) b≠-1):b∈aI S n∧gi (bA S n) b∈aI S n:=by
 by_cases e:b=0
 ·rw[e,xP hG.npos] at hb;exact absurd rfl hb
 rw[iy h0 e] at hb ⊢;have:=hG.exact.inv.mem b hb;exact ⟨this,(hG.near_mem this e).1⟩
set_option maxHeartbeats 4000000 in
theorem KQ (f:ab) (hf:small f) (hL:bS E) (ht:bv f=true):aX prog E 74 [.agg (bH f)] []
  fun r O=>(∃fr,yW f.q.length fr∧r=.tup [tX f (sd eI (En f)) (sd eI fr),.i 0])∧O=[]:=by
 have hE:=d5 ht;have hn:=hf.2.2.1;have hG:=hE.grph;have hpos:=hG.npos;have hol:=gH hG;have hop:=FP hG.toEOk;have hnear:=xQ (E:=E) f hE hn;have hfr:=fun t a b fb T x=>AE (E:=E) f hE hn t a b fb T x _ (yW.begin f.q.length);have hprd:=Au f hf hL ht;have hord:=Aw f hf hL ht;have hrng:∀z∈aI (aj f) f.q.length,0≤z∧z<f.q.length:=fun z hz=>da hG.toEOk hz
 refine zm func74 U (by decide) U<|Z<|zx (cs:=_) U U U<|X (kT U)<|ap U<|Y<|Z<|ae Z2 jk U U<|zb (hord) U<|X (oU U)<|Y<|za<|Z<|bj U<|am j7 U<|au U U<|Y<|yl U (by simp;exact List.ne_nil_of_length_pos hop)<|zc<|za<|zn (fun j=>false) (by kernel_rfl) U (zk (.rest _))<|D 0 U (dk jf U Zd U U)<|D 1 U (gJ Zf U)<|D 2 U (Gv.lenM jr U)<|D 3 U (yj Z2 jk U U)<|bp 4 U<|zb (hprd) U<|Y<|D 5 U (DS U)<|D 6 U (oU U)<|dS<|za<|y3 (γ:=Nat × Nat × Nat × Nat × Nat) [4,5,6] (fun g=>[(7,.po g.1 0)]) (fun g=>[(g.1,.cells 193 [.j g.2.2.2.2 f.q.length,.j g.2.1 f.q.length,fe g.2.2.1 f.q.length,fe g.2.2.2.1 f.q.length]),(g.2.1,.u 1 3 (cI (List.replicate f.q.length (-1)))),(0,dN eI 23 3 g.2.2.1 (List.replicate f.q.length [])),(0,dN eI 23 3 g.2.2.2.1 (List.replicate f.q.length [])),(g.2.2.2.2,.u 1 3 (cI (bA (aj f) f.q.length)))]) (fun g=>True) ?_ (fun _ _ h=>h) ?_
 ·refine zn (fun j=>false) (by kernel_rfl) U (zk (.rest _))<|D 0 U (zJ U)<|D 1 U (zJ U)<|D 2 U (dC U)<|D 5 U (dC U)<|D 7 U (dC U)<|D 9 U (dC U)<|bJ.four (i:=3) (j:=4) (m:=8) (q:=10) U U U U (by kernel_rfl) ?_ ?_ ?_ ?_
  all_goals (first|(refine zw (rows:=[[_]]) ed rfl rfl rfl rfl rfl ?_;refine Y ?_)|(refine qd (d:=30) (m:=f.q.length) Zg type23 rfl rfl rfl rfl rfl (by simp) (by simp) (by show (24:Int)*_≤_;omega) (by omega) eI 3 ?_;intro b30;refine Y ?_)|(refine qd (d:=32) (m:=f.q.length) Zg type23 rfl rfl rfl rfl rfl (by simp) (by simp) (by show (24:Int)*_≤_;omega) (by omega) eI 3 ?_;intro b32;refine Y ?_)|((first|refine zy rfl (zk (.rest _)) hnear ?_|refine zy rfl (zk (.r (.rest _))) hnear ?_|refine zy rfl (zk (.r (.r (.rest _)))) hnear ?_);rintro r25 O25 ⟨i25,rfl,rfl⟩;refine Y ?_)|((first|refine zy rfl (zk (.r (.rest _))) (cL (-1) f.q.length (by omega) hpos) ?_|refine zy rfl (zk (.r (.r (.rest _)))) (cL (-1) f.q.length (by omega) hpos) ?_|refine zy rfl (zk (.r (.r (.r (.rest _))))) (cL (-1) f.q.length (by omega) hpos) ?_);rintro r28 O28 ⟨i28,rfl,rfl⟩;refine Y ?_))
  all_goals (first|refine bJ.three (i:=4) (j:=8) (m:=10) rfl rfl rfl (by decide +kernel) ?_ ?_ ?_|refine bJ.three (i:=3) (j:=8) (m:=10) rfl rfl rfl (by decide +kernel) ?_ ?_ ?_|refine bJ.three (i:=3) (j:=4) (m:=10) rfl rfl rfl (by decide +kernel) ?_ ?_ ?_|refine bJ.three (i:=3) (j:=4) (m:=8) rfl rfl rfl (by decide +kernel) ?_ ?_ ?_)
  all_goals (first|(refine zw (rows:=[[_]]) ed rfl rfl rfl rfl rfl ?_;refine Y ?_)|(refine qd (d:=30) (m:=f.q.length) Zg type23 rfl rfl rfl rfl rfl (by simp) (by simp) (by show (24:Int)*_≤_;omega) (by omega) eI 3 ?_;intro b30;refine Y ?_)|(refine qd (d:=32) (m:=f.q.length) Zg type23 rfl rfl rfl rfl rfl (by simp) (by simp) (by show (24:Int)*_≤_;omega) (by omega) eI 3 ?_;intro b32;refine Y ?_)|((first|refine zy rfl (zk (.rest _)) hnear ?_|refine zy rfl (zk (.r (.rest _))) hnear ?_|refine zy rfl (zk (.r (.r (.rest _)))) hnear ?_);rintro r25 O25 ⟨i25,rfl,rfl⟩;refine Y ?_)|((first|refine zy rfl (zk (.r (.rest _))) (cL (-1) f.q.length (by omega) hpos) ?_|refine zy rfl (zk (.r (.r (.rest _)))) (cL (-1) f.q.length (by omega) hpos) ?_|refine zy rfl (zk (.r (.r (.r (.rest _))))) (cL (-1) f.q.length (by omega) hpos) ?_);rintro r28 O28 ⟨i28,rfl,rfl⟩;refine Y ?_))
  all_goals (first|refine bJ.three (i:=6) (j:=8) (m:=10) rfl rfl rfl (by decide +kernel) ?_ ?_ ?_|refine yq (i:=3) (j:=4) rfl rfl (by decide +kernel) ?_ ?_|refine yq (i:=3) (j:=8) rfl rfl (by decide +kernel) ?_ ?_|refine yq (i:=3) (j:=10) rfl rfl (by decide +kernel) ?_ ?_|refine yq (i:=4) (j:=8) rfl rfl (by decide +kernel) ?_ ?_|refine yq (i:=4) (j:=10) rfl rfl (by decide +kernel) ?_ ?_|refine yq (i:=8) (j:=10) rfl rfl (by decide +kernel) ?_ ?_)
  all_goals (first|(refine zw (rows:=[[_]]) ed rfl rfl rfl rfl rfl ?_;refine Y ?_)|(refine qd (d:=30) (m:=f.q.length) Zg type23 rfl rfl rfl rfl rfl (by simp) (by simp) (by show (24:Int)*_≤_;omega) (by omega) eI 3 ?_;intro b30;refine Y ?_)|(refine qd (d:=32) (m:=f.q.length) Zg type23 rfl rfl rfl rfl rfl (by simp) (by simp) (by show (24:Int)*_≤_;omega) (by omega) eI 3 ?_;intro b32;refine Y ?_)|((first|refine zy rfl (zk (.rest _)) hnear ?_|refine zy rfl (zk (.r (.rest _))) hnear ?_|refine zy rfl (zk (.r (.r (.rest _)))) hnear ?_);rintro r25 O25 ⟨i25,rfl,rfl⟩;refine Y ?_)|((first|refine zy rfl (zk (.r (.rest _))) (cL (-1) f.q.length (by omega) hpos) ?_|refine zy rfl (zk (.r (.r (.rest _)))) (cL (-1) f.q.length (by omega) hpos) ?_|refine zy rfl (zk (.r (.r (.r (.rest _))))) (cL (-1) f.q.length (by omega) hpos) ?_);rintro r28 O28 ⟨i28,rfl,rfl⟩;refine Y ?_))
  all_goals (first|refine yq (i:=6) (j:=8) rfl rfl (by decide +kernel) ?_ ?_|refine yq (i:=6) (j:=10) rfl rfl (by decide +kernel) ?_ ?_|refine yq (i:=8) (j:=10) rfl rfl (by decide +kernel) ?_ ?_|refine bJ.one (i:=3) rfl (by decide +kernel) ?_|refine bJ.one (i:=4) rfl (by decide +kernel) ?_)
  all_goals (first|(refine zw (rows:=[[_]]) ed rfl rfl rfl rfl rfl ?_;refine Y ?_)|(refine qd (d:=30) (m:=f.q.length) Zg type23 rfl rfl rfl rfl rfl (by simp) (by simp) (by show (24:Int)*_≤_;omega) (by omega) eI 3 ?_;intro b30;refine Y ?_)|(refine qd (d:=32) (m:=f.q.length) Zg type23 rfl rfl rfl rfl rfl (by simp) (by simp) (by show (24:Int)*_≤_;omega) (by omega) eI 3 ?_;intro b32;refine Y ?_)|((first|refine zy rfl (zk (.rest _)) hnear ?_|refine zy rfl (zk (.r (.rest _))) hnear ?_|refine zy rfl (zk (.r (.r (.rest _)))) hnear ?_);rintro r25 O25 ⟨i25,rfl,rfl⟩;refine Y ?_)|((first|refine zy rfl (zk (.r (.rest _))) (cL (-1) f.q.length (by omega) hpos) ?_|refine zy rfl (zk (.r (.r (.rest _)))) (cL (-1) f.q.length (by omega) hpos) ?_|refine zy rfl (zk (.r (.r (.r (.rest _))))) (cL (-1) f.q.length (by omega) hpos) ?_);rintro r28 O28 ⟨i28,rfl,rfl⟩;refine Y ?_))
  all_goals (first|refine bJ.one (i:=6) rfl (by decide +kernel) ?_|refine bJ.one (i:=8) rfl (by decide +kernel) ?_|refine bJ.one (i:=10) rfl (by decide +kernel) ?_)
  all_goals (first|(refine zw (rows:=[[_]]) ed rfl rfl rfl rfl rfl ?_;refine Y ?_)|(refine qd (d:=30) (m:=f.q.length) Zg type23 rfl rfl rfl rfl rfl (by simp) (by simp) (by show (24:Int)*_≤_;omega) (by omega) eI 3 ?_;intro b30;refine Y ?_)|(refine qd (d:=32) (m:=f.q.length) Zg type23 rfl rfl rfl rfl rfl (by simp) (by simp) (by show (24:Int)*_≤_;omega) (by omega) eI 3 ?_;intro b32;refine Y ?_)|((first|refine zy rfl (zk (.rest _)) hnear ?_|refine zy rfl (zk (.r (.rest _))) hnear ?_|refine zy rfl (zk (.r (.r (.rest _)))) hnear ?_);rintro r25 O25 ⟨i25,rfl,rfl⟩;refine Y ?_)|((first|refine zy rfl (zk (.r (.rest _))) (cL (-1) f.q.length (by omega) hpos) ?_|refine zy rfl (zk (.r (.r (.rest _)))) (cL (-1) f.q.length (by omega) hpos) ?_|refine zy rfl (zk (.r (.r (.r (.rest _))))) (cL (-1) f.q.length (by omega) hpos) ?_);rintro r28 O28 ⟨i28,rfl,rfl⟩;refine Y ?_))
  all_goals (refine D 11 rfl (y5 (cps:=[(0,[_]),(1,[_]),(2,[_]),(3,[_])]) (rs:=[_,_,_,_]) (show eS prog 193 #[(0,1),(1,1),(2,1),(3,1)] [.n,.n,.n,.n] from ⟨_,_,Zj,zeroValue193,fun w=>by kernel_rfl,rfl⟩) rfl rfl rfl) ?_;refine bp 12 rfl ?_;refine qi (cs:=_) rfl rfl rfl rfl ?_;intro i34;refine y9 (yr (yx (i:=i25) (by first|exact .head|exact .tail .head|exact .tail .t1|exact .tail .t2|exact .tail .t3))) ?_;refine y9 (yr (yx (o:=dN eI 23 3 b32 (List.replicate f.q.length [])) (by first|exact .head|exact .tail .head|exact .tail .t1|exact .tail .t2|exact .tail .t3))) ?_;refine y9 (yr (yx (o:=dN eI 23 3 b30 (List.replicate f.q.length [])) (by first|exact .head|exact .tail .head|exact .tail .t1|exact .tail .t2|exact .tail .t3))) ?_;refine y9 (yr (yx (i:=i28) (by first|exact .head|exact .tail .head|exact .tail .t1|exact .tail .t2|exact .tail .t3))) ?_;refine y9 (yr (yx (i:=i34) (by first|exact .head|exact .tail .head|exact .tail .t1|exact .tail .t2|exact .tail .t3))) ?_;refine Y ?_;refine D 13 rfl (xw rfl) ?_;refine dS ?_;exact ⟨(i34,i28,b30,b32,i25),eX,aN,aJ,trivial⟩)
 rintro ⟨i34,i28,b30,b32,i25⟩ _
 refine Z<|bf U<|aC U<|X (ze Zj U jh (by decide) U U)<|X (zj (c:=.j _ _) jy U ⟨_,.head⟩ U)<|X (y7 (j:=0) j7 j9 U U U ⟨_,.t1⟩ (by first|rfl|(simp[aH,aP];done)|(simp[aH,aP];omega)) hpos)<|yw (j:=0) j9 U U .t1 (by first|omega|(simp;omega))<|Y<|za<|Z<|bj U<|X (Gv.cutLoM (j:=1) j7 j9 U U U (by omega))<|am j7 U<|C U<|Y<|zd<|zu (γ:=Nat) [4,5,6,7,41,42] (fun q=>[(43,.i q)]) (fun q=>[(i34,.cells 193 [.j i25 f.q.length,.j i28 f.q.length,fe b30 f.q.length,fe b32 f.q.length]),(i28,.u 1 3 (cI (jC (aj f) f.q.length q))),(0,dN eI 23 3 b30 (List.replicate f.q.length [])),(0,dN eI 23 3 b32 (List.replicate f.q.length [])),(i25,.u 1 3 (cI (bA (aj f) f.q.length)))]) (fun q=>q≤((aI (aj f) f.q.length).drop 1).length∧∀x,-1≤gi (jC (aj f) f.q.length q) x∧gi (jC (aj f) f.q.length q) x≤q) (fun q=>((aI (aj f) f.q.length).drop 1).length - q) 0 aN aJ (⟨qw _,fun x=>by rw[show jC (aj f) f.q.length 0=gv f.q.length from rfl,pk hpos];dsimp only;split<;>omega⟩) ?_
 rintro q ⟨hq,hb⟩;refine Z<|aq U U<|Y<|za<|zh U (fun cq=>?_) (fun cq=>?_)
 ·have hq2:q<((aI (aj f) f.q.length).drop 1).length:=by simpa using cq
  obtain ⟨b,hbe⟩:∃b,((aI (aj f) f.q.length).drop 1)[q]=b:=⟨_,rfl⟩;have hbt:b∈(aI (aj f) f.q.length).drop 1:=hbe▸qx hq2;have hbm:b∈aI (aj f) f.q.length:=List.mem_of_mem_drop hbt;have hb0:=KO hG.toEOk hbt;obtain ⟨hbp,hbn⟩:=hrng b hbm;have hnm:=(hG.near_mem hbm hb0).1;rw[←iy hbp hb0] at hnm;obtain ⟨hnp,hnn⟩:=hrng _ hnm;have hgN:(bA (aj f) f.q.length)[b.toNat]?=some (gi (bA (aj f) f.q.length) b):=ie hbp (by rw[gI];omega);have hgL:(jC (aj f) f.q.length q)[(gi (bA (aj f) f.q.length) b).toNat]?=some (gi (jC (aj f) f.q.length q) (gi (bA (aj f) f.q.length) b)):=ie hnp (by rw[wI];omega);have hbb:=hb (gi (bA (aj f) f.q.length) b);have hsucc:jC (aj f) f.q.length (q+1)=(jC (aj f) f.q.length q).set b.toNat (gi (jC (aj f) f.q.length q) (gi (bA (aj f) f.q.length) b)+1):=by rw[CY hq2,hbe,iy hbp hb0];rfl
  have hlen:=wI (aj f) f.q.length q;have hNl:=gI (aj f) f.q.length;have hql:q≤1000:=by have:((aI (aj f) f.q.length).drop 1).length≤(aI (aj f) f.q.length).length:=(by simp);omega
  refine zc<|za<|zd<|Z<|X (bD q j7 j9 U U U (by rw[qt hq2,hbe])) ?_
  refine aD jg U<|ap U<|Y<|zn (fun j=>Nat.beq j 20) (by kernel_rfl) U (zk (.r (.l (.l (.l (.r (.rest _)))))))<|D 0 U (dZ U)<|D 1 U (zr U)<|D 2 U (ze Zj U jh (by decide) U U)<|D 3 U (zj (c:=.j _ _) jy U ⟨_,.head⟩ U)<|D 4 U (dC U)<|D 5 U (dZ U)<|D 6 U (zr U)<|D 7 U (ze Zj U jh (by decide) U U)<|D 8 U (zj (c:=.j _ _) jy U ⟨_,.head⟩ U)<|D 9 U (dZ U)<|D 10 U (zr U)<|D 11 U (ze Zj U jh (by decide) U U)<|D 12 U (zj (c:=.j _ _) jy U ⟨_,.head⟩ U)<|D 13 U (dC U)<|D 14 U (y7 (j:=b.toNat) j7 j9 U U (by omega) ⟨_,.t1⟩ (by first|rfl|(simp[aH,aP];done)|(simp[aH,aP];omega)) (by omega))<|D 15 U (yp (j:=b.toNat) jg U ⟨_,.t1⟩ hgN)<|bp 16 U<|X (y7 (j:=(gi (bA (aj f) f.q.length) b).toNat) j7 j9 U U (by omega) ⟨_,.head⟩ (by first|rfl|(simp[aH,aP];done)|(simp[aH,aP];omega)) (by omega))<|Y<|bp 17 U<|X (yp (j:=(gi (bA (aj f) f.q.length) b).toNat) jg U ⟨_,.head⟩ hgL)<|Y<|D 18 U (ky U U)<|bp 19 U<|X (y7 (j:=b.toNat) j7 j9 U U (by omega) ⟨_,.head⟩ (by first|rfl|(simp[aH,aP];done)|(simp[aH,aP];omega)) (by omega))<|Y<|y4<|yg (i:=20) U (by kernel_rfl) (by kernel_rfl)<|yw (j:=b.toNat) j9 U U .t2 (by first|omega|(simp;omega))<|cC .t1<|cC .t4<|cC .t4<|cC .t4<|cC .t4<|Y<|y8 (by kernel_rfl)<|bQ U U ?_
  exact ⟨q+1,rX,aN,⟨_,(.refl _),by rw[hsucc]⟩,⟨hq2,fun x=>by rw[hsucc,xF hbp (by omega)];have:=hb x;split<;>omega⟩,by omega⟩
 have hqn:q=((aI (aj f) f.q.length).drop 1).length:=by have h0:¬(q:Int)<(((aI (aj f) f.q.length).drop 1).length:Int):=(by simpa using cq);omega
 subst hqn;rw[FO];refine zt<|za<|Z<|C U<|C U<|Y<|zd<|zu (γ:=Nat) [4,6,7,68] (fun k=>[(69,.i k)]) (fun k=>[(i34,.cells 193 [.j i25 f.q.length,.j i28 f.q.length,fe b30 f.q.length,fe b32 f.q.length]),(i28,.u 1 3 (cI (cM (aj f) f.q.length))),(0,dN eI 23 3 b30 (cZ f.q.length (yX (bA (aj f) f.q.length) k))),(0,dN eI 23 3 b32 (List.replicate f.q.length [])),(i25,.u 1 3 (cI (bA (aj f) f.q.length)))]) (fun k=>k≤f.q.length) (fun k=>f.q.length - k) 0 aN ⟨_,(.refl _),by rw[tM];rfl⟩ (qw _) ?_;rintro k hk;refine Z<|aq U U<|Y<|za<|zh U (fun ck=>?_) (fun ck=>?_)
 ·have hk2:k<f.q.length:=by simp at ck;omega
  have hNl:=gI (aj f) f.q.length;have hgN:(bA (aj f) f.q.length)[k]?=some (gi (bA (aj f) f.q.length) (k:Int)):=ie (x:=(k:Int)) (by omega) (by rw[gI];omega);have hel:=KP (bA (aj f) f.q.length) k;refine zc<|za<|zd<|Z<|C U<|ap U<|Y<|Z<|bf U<|aC U<|X (ze Zj U jh (by decide) U U)<|X (zj (c:=.j _ _) jy U ⟨_,.head⟩ U)<|C U<|X (y7 (j:=k) j7 j9 U U U ⟨_,.t4⟩ (by first|rfl|(simp[aH,aP];done)|(simp[aH,aP];omega)) hk2)<|X (yp (j:=k) jg U ⟨_,.t4⟩ hgN)<|ap U<|Y<|Z<|C U<|aT U U<|Y<|zq U (fun cn=>?_) (fun cn=>?_)
  ·have hne:gi (bA (aj f) f.q.length) (k:Int)≠-1:=by simpa using cn
   have hpm:=(HU hG (by omega) hne).2;obtain ⟨hp0,hpn⟩:=hrng _ hpm;obtain ⟨p,hpe⟩:∃p,gi (bA (aj f) f.q.length) (k:Int)=p:=⟨_,rfl⟩;rw[hpe] at hne hpm hp0 hpn;have hpl:p.toNat<(cZ f.q.length (yX (bA (aj f) f.q.length) k)).length:=by rw[dv];omega
   have hrl:=lX hpl;have hsucc:yX (bA (aj f) f.q.length) (k+1)=yX (bA (aj f) f.q.length) k++[(p,(k:Int))]:=by rw[AF,hpe,if_pos hne]
   rw[hpe];refine y3 (γ:=Unit) [4,6,7,68,69] (fun u=>[]) (fun u=>[(i34,.cells 193 [.j i25 f.q.length,.j i28 f.q.length,fe b30 f.q.length,fe b32 f.q.length]),(i28,.u 1 3 (cI (cM (aj f) f.q.length))),(0,dN eI 23 3 b30 ((cZ f.q.length (yX (bA (aj f) f.q.length) k)).set p.toNat ((cZ f.q.length (yX (bA (aj f) f.q.length) k))[p.toNat]++[(k:Int)]))),(0,dN eI 23 3 b32 (List.replicate f.q.length [])),(i25,.u 1 3 (cI (bA (aj f) f.q.length)))]) (fun u=>True) ?_ (fun _ _ h=>h) ?_
   ·refine zn (fun j=>Nat.beq j 16) (by kernel_rfl) U (zk (.r (.l (.l (.l (.r (.rest _)))))))<|D 0 U (dZ U)<|D 1 U (zr U)<|D 2 U (ze Zj U sizeOf74 (by decide) U U)<|D 3 U (zj (c:=fe _ _) isAgg74 U ⟨_,.head⟩ U)<|D 4 U (dC U)<|D 5 U (dZ U)<|D 6 U (zr U)<|D 7 U (ze Zj U sizeOf74 (by decide) U U)<|D 8 U (zj (c:=fe _ _) isAgg74 U ⟨_,.head⟩ U)<|D 9 U (dC U)<|D 10 U (qn (j:=p.toNat) Zg jh U U (by omega) (by omega))<|D 12 U (dC U)<|yq (i:=11) (j:=13) U U (by kernel_rfl) ?_ ?_
    ·refine qg (j:=p.toNat) (r:=(cZ f.q.length (yX (bA (aj f) f.q.length) k))[p.toNat]) jy U (qt hpl) (fun _=>.t1)<|fun i92=>Y<|bp 13 U<|zw (rows:=[[_]]) ed U U U U U<|Y<|bp 14 U<|yb (k:=1) j7 Y6 U U U U U (fun _=>.head) (by rw[eI.av_len];rfl) (by decide) U (by show (_+1)*8≤_;omega) (by show _+1≤_;omega)<|fun i95=>Y<|D 15 U (qn (j:=p.toNat) Zg jh U U (by omega) (by omega))<|y4<|yg (i:=16) U (by kernel_rfl) (by kernel_rfl)<|qo (j:=p.toNat) (r:=(cZ f.q.length (yX (bA (aj f) f.q.length) k))[p.toNat]++[(k:Int)]) jh U U (by omega) .t2 .t3 U (eI.av_push _ _) (by simp)<|cC .t1<|cC .t4<|cC .t4<|cC .t4<|cC .t4<|Y<|y8 (by kernel_rfl) ?_;exact ⟨(),lf,trivial,aJ,trivial⟩
    refine zw (rows:=[[_]]) ed U U U U U<|Y<|bp 11 U<|qg (j:=p.toNat) (r:=(cZ f.q.length (yX (bA (aj f) f.q.length) k))[p.toNat]) jy U (qt hpl) (fun _=>.t1)<|fun i92=>Y<|bp 14 U<|yb (k:=1) j7 Y6 U U U U U (fun _=>.head) (by rw[eI.av_len];rfl) (by decide) U (by show (_+1)*8≤_;omega) (by show _+1≤_;omega)<|fun i95=>Y<|D 15 U (qn (j:=p.toNat) Zg jh U U (by omega) (by omega))<|y4<|yg (i:=16) U (by kernel_rfl) (by kernel_rfl)<|qo (j:=p.toNat) (r:=(cZ f.q.length (yX (bA (aj f) f.q.length) k))[p.toNat]++[(k:Int)]) jh U U (by omega) .t2 .t3 U (eI.av_push _ _) (by simp)<|cC .t1<|cC .t4<|cC .t4<|cC .t4<|cC .t4<|Y<|y8 (by kernel_rfl) ?_;exact ⟨(),lf,trivial,aJ,trivial⟩
   rintro _ _;refine bQ U U ?_;exact ⟨k+1,f7,aN,⟨_,(.refl _),by rw[hsucc,m1 hp0 hpl]⟩,hk2,by omega⟩
  have hne:gi (bA (aj f) f.q.length) (k:Int)=-1:=by simpa using cn
  have hsucc:yX (bA (aj f) f.q.length) (k+1)=yX (bA (aj f) f.q.length) k:=by rw[AF,if_neg (by rw[hne];simp)];simp
  refine zc<|bQ U U ?_;exact ⟨k+1,f7,aN,⟨_,(.refl _),by rw[hsucc]⟩,hk2,by omega⟩
 have hkn:k=f.q.length:=by simp at ck;omega
 subst hkn;refine gd .t4<|gd .t2<|gd .t2<|gd .t4<|zt<|Z<|bf U<|bj U<|bj U<|zy U (zk (.l (.l (.l (.l (.r (.rest _))))))) (hfr _ _ _ _ 0 _) ?_;rintro r101 O101 ⟨rfl,fr,hfr2,rfl⟩;refine Y<|Z<|bf U<|X (xw U)<|ap U<|Y<|yd (aR.knowIC (off:=0) .t3 .t1 U (gI _ _))<|yd (aR.knowIC (off:=1) .t2 .t1 U hG.lev.len)<|yd (aR.nestKnowC (off:=2) .t2 .t1 U (dv _ _))<|yd (aR.nestKnowC (off:=3) .head .head U hfr2.1)<|yd (zz (t:=2) U .head)<|zf<|ql (x:=.pf _) (y:=.int _ _) U U ?_;exact ⟨⟨fr,hfr2,rfl⟩,rfl⟩
def Ob (f:ab):AV:=tX f (sd eI (En f)) .any
theorem AG (f:ab) (hf:small f) (hL:bS E) (ht:bv f=true):aS prog E 74 [.agg (bH f)] (.tup [Ob f,.i 0]):=
 (KQ f hf hL ht).weak fun x O h=>by
  obtain ⟨⟨fr,hfr,rfl⟩,rfl⟩:=h;refine ⟨U,fun I v hv=>?_⟩;obtain ⟨vs,e,w0,us,e2,h0,hr⟩:=hv;obtain ⟨b,off,ws,e3,hl,hk⟩:=h0;obtain ⟨u0,t0,f0,a0,u1,t1,f1,a1,u2,t2,f2,a2,u3,t3,f3,a3,hz⟩:=hl;exact ⟨vs,e,w0,us,e2,⟨b,off,ws,e3,⟨u0,t0,f0,a0,u1,t1,f1,a1,u2,t2,f2,a2,u3,t3,f3,trivial,hz⟩,hk⟩,hr⟩
end
section
open Go.Proofs.Tryz
open Go.Proofs Go.Lib Go.Shelf Go.RowKit
theorem Eo:eS prog 114 #[(0,1),(1,1)] [.int .i64 0,.int .i64 0]:=⟨_,_,Y9,zeroValue114,fun w=>by kernel_rfl,rfl⟩
theorem kK:dp prog 109 114 1 2 [.int .i64 0,.int .i64 0]:=⟨_,Zm,Ya,zeroValue114,by decide,by decide,by kernel_rfl⟩
variable {E:World}
set_option maxRecDepth 20000
theorem bN.dstPhi {f:ab} (h:bN f) {b:aF} (hb:b∈f.q) {p:dh} (hp:p∈b.p):0≤p.dst∧p.dst<f.v.length:=by
 have:=((h.2.2.2.2.2 b hb).1 p hp).1
 simpa [bn] using this
theorem bN.dstInst {f:ab} (h:bN f) {b:aF} (hb:b∈f.q) {x:aB} (hx:x∈b.s) (h0:0≤x.dst):x.dst<f.v.length:=by
 rcases (fG ((h.2.2.2.2.2 b hb).2.1 x hx)).dst with ⟨_,d⟩|⟨_,_,d⟩
 ·omega
 have:0≤x.dst∧x.dst<f.v.length:=by simpa [bn] using d
 exact this.2
theorem small.evs {f:ab} (hf:small f) {k:Nat} (hk:k≤f.q.length):(ee f k).length≤2000000:=by
 have h1:=Ar (m:=2000) (fun b hb=>by have:=hf.2.2.2.2 b hb;have h2:=this.2.1;have h3:=this.2.2.1;omega) k hk;have:=hf.2.2.1;omega
set_option maxHeartbeats 4000000 in
theorem rH (f:ab) (hf:small f) (hS:bN f):aX prog E 118 [.agg (bH f)] []
  fun x O=>∃b:Nat,x=fe b f.v.length∧O=[(0,dN eP 109 114 b (tP f))]:=by
 have hv:=hf.1;have hn:=hf.2.2.1;refine zm func118 U (by decide) U<|Z<|zx (cs:=_) U U U<|X (kT U)<|Y<|Z<|ao jf U Zs U U<|aK Y4 U<|am Z7 U<|qd (m:=f.v.length) Yl type109 U U U U U (by simp) (by simp) (by show (24:Int)*_≤_;omega) (by omega) eP 114<|fun b13=>X (q9 (v:=fe _ _) U)<|Y<|za<|Z<|ao jf U Zd U U<|aK Zf U<|am jr U<|C U<|Y<|zd<|zu (γ:=Nat) [3,15,16] (fun k=>[(17,.i k)]) (fun k=>[(0,dN eP 109 114 b13 (cZ f.v.length (ee f k)))]) (fun k=>k≤f.q.length) (fun k=>f.q.length - k) 0 aN ⟨_,(.refl _),by rw[tM];rfl⟩ (qw _) ?_;rintro k hk;refine Z<|aq U U<|Y<|za<|zh U (fun ck=>?_) (fun ck=>?_)
 ·have hk2:k<f.q.length:=by simp at ck;omega
  obtain ⟨b,hbk⟩:∃b,f.q[k]=b:=⟨_,rfl⟩;have hget:f.q[k]?=some b:=by rw[qt hk2,hbk]
  have hmem:b∈f.q:=hbk▸qx hk2;obtain ⟨hb0,hb1,hb2,hb3,hb4⟩:=hf.2.2.2.2 b hmem;have hevl:=hf.evs hk;refine zc<|za<|zd<|Z<|C U<|X (bD k jr Z1 U U U hget)<|ae Ye Z1 U U<|zp (cs:=[.e,.n,.n,.int .i64 0,.int .i64 0,.int .i64 0,.int .i64 0]) Zh U U<|fun i5=>ap U<|zi Z1 U U U U U U .head U<|y9 (zz (t:=5) U .head)<|Y<|za<|Z<|ao ji U Zv U U<|aK Yf U<|am Z6 U<|C U<|Y<|zd<|zu (γ:=Nat) [3,4,5,15,16,17,23,24] (fun j=>[(25,.i j)]) (fun j=>[(0,dN eP 109 114 b13 (cZ f.v.length (ee f k++eg k (b.p.take j))))]) (fun j=>j≤b.p.length) (fun j=>b.p.length - j) 0 aN ⟨_,(.refl _),by rw[show eg k (b.p.take 0)=[] from rfl,w8]⟩ (qw _) ?_;rintro j hj;refine Z<|aq U U<|Y<|za<|zh U (fun cj=>?_) (fun cj=>?_)
  ·have hj2:j<b.p.length:=by simp at cj;omega
   obtain ⟨p,hp⟩:∃p,b.p[j]=p:=⟨_,rfl⟩;obtain ⟨hd0,hdn⟩:=hS.dstPhi hmem (hp▸qx hj2);obtain ⟨rows,hrows⟩:∃rows,cZ f.v.length (ee f k++eg k (b.p.take j))=rows:=⟨_,rfl⟩;have hdl:p.dst.toNat<(cZ f.v.length (ee f k++eg k (b.p.take j))).length:=by rw[dv];omega
   have hrl:=lX hdl;have hsucc:=m1 (x:=((k:Int),(-1:Int))) hd0 hdl;have hrn:=dv f.v.length (ee f k++eg k (b.p.take j));have hel:(ee f k++eg k (b.p.take j)).length≤2001000:=by rw[qz,eg,w2,w9];omega
   rw[qv,show eg k (b.p.take j)++[(p.dst,((k:Int),(-1:Int)))]=eg k (b.p.take (j+1)) by rw[nF k hj2,hp]] at hsucc;simp only[hrows] at hdl hrl hsucc hrn;rw[hrows];refine zc<|za<|zd<|Z<|X (bD j Z6 Ze U U U (by rw[qt hj2,hp])) ?_;refine ae Ys Ze U U<|zp (cs:=[.i 0,.n,.n]) Y0 U U<|fun i7=>zi Ze U U U U U U .head U<|y9 (zz (t:=7) U .head)<|Y<|y3 (γ:=Unit) [3,4,5,15,16,17,23,24,25] (fun u=>[]) (fun u=>[(0,dN eP 109 114 b13 (rows.set p.dst.toNat (rows[p.dst.toNat]++[((k:Int),-1)])))]) (fun u=>True) ?_ (fun _ _ h=>h) ?_
   ·refine zn (fun j=>Nat.beq j 13) (by kernel_rfl) U (zk (.rest _))<|D 0 U (yn (v:=fe _ _) U)<|D 1 U (dk Z3 U j9 U U)<|D 2 U (d9 jg U)<|D 3 U (yn (v:=fe _ _) U)<|D 4 U (dk Z3 U j9 U U)<|D 5 U (d9 jg U)<|D 6 U (qn (j:=p.dst.toNat) Yl Yt U U (by omega) (by omega))<|D 8 U (dC U)<|D 9 U (y5 (cps:=[(0,[_]),(1,[_])]) (rs:=[_,_]) Eo U U U)<|yq (i:=7) (j:=10) U U (by kernel_rfl) ?_ ?_
    ·refine qg (j:=p.dst.toNat) (r:=rows[p.dst.toNat]) Xa U (qt hdl) (fun _=>.head)<|fun i36=>Y<|bp 10 U<|zw (rows:=[[_,_]]) kK U U U U U<|Y<|bp 11 U<|yb (k:=2) Zm type114 U U U U U (fun _=>.head) (by rw[eP.av_len];rfl) (by decide) U (by show (_+1)*16≤_;omega) (by show _+1≤_;omega)<|fun i40=>Y<|D 12 U (qn (j:=p.dst.toNat) Yl Yt U U (by omega) (by omega))<|y4<|yg (i:=13) U (by kernel_rfl) (by kernel_rfl)<|qo (j:=p.dst.toNat) (r:=rows[p.dst.toNat]++[((k:Int),-1)]) Yt U U (by omega) .head .head U (eP.av_push rows[p.dst.toNat] ((k:Int),(-1:Int))) (by simp)<|Y<|y8 (by kernel_rfl) ?_;exact ⟨(),p9,trivial,aJ,trivial⟩
    refine zw (rows:=[[_,_]]) kK U U U U U<|Y<|bp 7 U<|qg (j:=p.dst.toNat) (r:=rows[p.dst.toNat]) Xa U (qt hdl) (fun _=>.head)<|fun i36=>Y<|bp 11 U<|yb (k:=2) Zm type114 U U U U U (fun _=>.head) (by rw[eP.av_len];rfl) (by decide) U (by show (_+1)*16≤_;omega) (by show _+1≤_;omega)<|fun i40=>Y<|D 12 U (qn (j:=p.dst.toNat) Yl Yt U U (by omega) (by omega))<|y4<|yg (i:=13) U (by kernel_rfl) (by kernel_rfl)<|qo (j:=p.dst.toNat) (r:=rows[p.dst.toNat]++[((k:Int),-1)]) Yt U U (by omega) .head .head U (eP.av_push rows[p.dst.toNat] ((k:Int),(-1:Int))) (by simp)<|Y<|y8 (by kernel_rfl) ?_;exact ⟨(),p9,trivial,aJ,trivial⟩
   rintro _ _;refine bQ U U ?_;exact ⟨j+1,rY,aN,⟨_,(.refl _),by rw[hsucc]⟩,hj2,by omega⟩
  have hjn:j=b.p.length:=by simp at cj;omega
  subst hjn;rw[qy];refine zt<|Z<|ao ji U Zw U U<|aK Y3 U<|am Z4 U<|C U<|Y<|zd<|zu (γ:=Nat) [3,4,15,16,17,44,45] (fun j=>[(46,.i j)]) (fun j=>[(0,dN eP 109 114 b13 (cZ f.v.length (ee f k++eg k b.p++iL k (b.s.take j))))]) (fun j=>j≤b.s.length) (fun j=>b.s.length - j) 0 aN ⟨_,(.refl _),by rw[show iL k (b.s.take 0)=[] from rfl,w8]⟩ (qw _) ?_;rintro j hj;refine Z<|aq U U<|Y<|za<|zh U (fun cj=>?_) (fun cj=>?_)
  ·have hj2:j<b.s.length:=by simp at cj;omega
   obtain ⟨p,hp⟩:∃p,b.s[j]=p:=⟨_,rfl⟩;have hev:=lp k hj2;rw[hp] at hev;refine zc<|za<|zd<|Z<|C U<|X (bD j Z4 Z9 U U U (by rw[qt hj2,hp])) ?_;refine ae Yg Z9 U U<|zp (cs:=[.i 0,.i 0,.n,.i 0]) Zo U U<|fun i9=>ap U<|zi Z9 U U U U U U .head U<|y9 (zz (t:=9) U .head)<|Y<|Z<|ao jd U j9 U U<|aD jg U<|X (q7 U U)<|Y<|zq U (fun cd=>?_) (fun cd=>?_)
   ·have hd0:0≤p.dst:=by simpa using cd
    have hdn:=hS.dstInst hmem (hp▸qx hj2) hd0;rw[if_pos hd0] at hev;obtain ⟨rows,hrows⟩:∃rows,cZ f.v.length (ee f k++eg k b.p++iL k (b.s.take j))=rows:=⟨_,rfl⟩;have hdl:p.dst.toNat<(cZ f.v.length (ee f k++eg k b.p++iL k (b.s.take j))).length:=by rw[dv];omega
    have hrl:=lX hdl;have hsucc:=m1 (x:=((k:Int),(j:Int))) hd0 hdl;have hrn:=dv f.v.length (ee f k++eg k b.p++iL k (b.s.take j));have hel:(ee f k++eg k b.p++iL k (b.s.take j)).length≤2002000:=by
     have:=tO k (b.s.take j);rw[w9] at this;rw[qz,qz,eg,w2];omega
    rw[qv (ee f k++eg k b.p) (iL k (b.s.take j)) [(p.dst,((k:Int),(j:Int)))],←hev] at hsucc;simp only[hrows] at hdl hrl hsucc hrn;rw[hrows];refine y3 (γ:=Unit) [3,4,15,16,17,44,45,46] (fun u=>[]) (fun u=>[(0,dN eP 109 114 b13 (rows.set p.dst.toNat (rows[p.dst.toNat]++[((k:Int),(j:Int))])))]) (fun u=>True) ?_ (fun _ _ h=>h) ?_
    ·refine zn (fun j=>Nat.beq j 14) (by kernel_rfl) U (zk (.rest _))<|D 0 U (yn (v:=fe _ _) U)<|D 1 U (dk jd U j9 U U)<|D 2 U (d9 jg U)<|D 3 U (yn (v:=fe _ _) U)<|D 4 U (dk jd U j9 U U)<|D 5 U (d9 jg U)<|D 6 U (qn (j:=p.dst.toNat) Yl Yt U U (by omega) (by omega))<|D 8 U (dC U)<|D 9 U (dC U)<|D 10 U (y5 (cps:=[(0,[_]),(1,[_])]) (rs:=[_,_]) Eo U U U)<|yq (i:=7) (j:=11) U U (by kernel_rfl) ?_ ?_
     ·refine qg (j:=p.dst.toNat) (r:=rows[p.dst.toNat]) Xa U (qt hdl) (fun _=>.head)<|fun i61=>Y<|bp 11 U<|zw (rows:=[[_,_]]) kK U U U U U<|Y<|bp 12 U<|yb (k:=2) Zm type114 U U U U U (fun _=>.head) (by rw[eP.av_len];rfl) (by decide) U (by show (_+1)*16≤_;omega) (by show _+1≤_;omega)<|fun i66=>Y<|D 13 U (qn (j:=p.dst.toNat) Yl Yt U U (by omega) (by omega))<|y4<|yg (i:=14) U (by kernel_rfl) (by kernel_rfl)<|qo (j:=p.dst.toNat) (r:=rows[p.dst.toNat]++[((k:Int),(j:Int))]) Yt U U (by omega) .head .head U (eP.av_push rows[p.dst.toNat] ((k:Int),(j:Int))) (by simp)<|Y<|y8 (by kernel_rfl) ?_;exact ⟨(),rY,trivial,aJ,trivial⟩
     refine zw (rows:=[[_,_]]) kK U U U U U<|Y<|bp 7 U<|qg (j:=p.dst.toNat) (r:=rows[p.dst.toNat]) Xa U (qt hdl) (fun _=>.head)<|fun i61=>Y<|bp 12 U<|yb (k:=2) Zm type114 U U U U U (fun _=>.head) (by rw[eP.av_len];rfl) (by decide) U (by show (_+1)*16≤_;omega) (by show _+1≤_;omega)<|fun i66=>Y<|D 13 U (qn (j:=p.dst.toNat) Yl Yt U U (by omega) (by omega))<|y4<|yg (i:=14) U (by kernel_rfl) (by kernel_rfl)<|qo (j:=p.dst.toNat) (r:=rows[p.dst.toNat]++[((k:Int),(j:Int))]) Yt U U (by omega) .head .head U (eP.av_push rows[p.dst.toNat] ((k:Int),(j:Int))) (by simp)<|Y<|y8 (by kernel_rfl) ?_;exact ⟨(),rY,trivial,aJ,trivial⟩
    rintro _ _;refine bQ U U ?_;exact ⟨j+1,lI,aN,⟨_,(.refl _),by rw[hsucc]⟩,hj2,by omega⟩
   have hd0:¬0≤p.dst:=by simpa using cd
   rw[if_neg hd0,w8] at hev;refine zc<|bQ U U ?_;exact ⟨j+1,lI,aN,⟨_,(.refl _),by rw[hev]⟩,hj2,by omega⟩
  have hjn:j=b.s.length:=by simp at cj;omega
  subst hjn;rw[qy];refine zt<|bQ U U ?_;exact ⟨k+1,eX,aN,⟨_,(.refl _),by rw[ir hk2,hbk,tN,qv]⟩,hk2,by omega⟩
 have hkn:k=f.q.length:=by simp at ck;omega
 subst hkn;refine zt<|Z<|X (yn (v:=fe _ _) U)<|X (q9 (v:=fe _ _) U)<|Y<|zf<|yz (x:=fe _ _) U ?_;exact ⟨b13,rfl,rfl⟩
end
section
open Go.Proofs.Tryz
open Go.Proofs Go.Lib Go.Shelf Go.RowKit
variable {E:World}
set_option maxRecDepth 20000
theorem d6 {f:ab} (h:bv f=true):bN f:=by
 unfold bv at h;rw[wc,ij] at h;exact wg h.1
theorem Pn (l:List lk):((eP.av l++[AV.i (-1),AV.i 0]).drop 0).take 2=[AV.i (l.head?.getD (-1,0)).1,AV.i (l.head?.getD (-1,0)).2]:=by cases l<;>rfl
theorem xR {f:ab} (hf:small f) {v:Nat} (h:v<f.v.length):(aZ f v).length≤2000000:=by
 have h1:=gy (ee f f.q.length) h;have h2:v<(cZ f.v.length (ee f f.q.length)).length:=by rw[dv];exact h
 have h3:=lX h2;have h4:=hf.evs (Nat.le_refl _);rw[qt h2,pw] at h1;rw[Option.some.inj h1] at h3;omega
theorem m3 (f:ab) (hf:small f) (hL:bS E) (ht:bv f=true):aS prog E 75 [.agg (bH f)] (.fro 2 ((dG f).map eP.row)):=by
 have hv:=hf.1;refine zm func75 U (by decide) U<|Z<|zx (cs:=_) U U U<|X (kT U)<|Y<|za<|Z<|ae Z2 jk U U<|zb (oA f hf hL) U<|aT U U<|Y<|yl U (by rw[ht];rfl)<|zc<|Z<|X (kT U)<|Y<|za<|Z<|ae Z2 jk U U<|zy U (zk (.rest _)) (rH f hf (d6 ht)) ?_;rintro r10 O10 ⟨b10,rfl,rfl⟩;refine X (Gv.lenN Yl U)<|C U<|Y<|gN (t:=3) (k:=2) (T:=114) U<|fun i3=>yd (aR.nestTail .t1)<|zd<|zu (γ:=Nat × Nat) [10,11] (fun g=>[(12,.i g.1),(3,.j g.2 g.1)]) (fun g=>[(g.2,.u 2 114 (((dG f).take g.1).map eP.row).flatten),(0,Ea eP 109 114 b10 (tP f) g.1)]) (fun g=>g.1≤f.v.length) (fun g=>f.v.length - g.1) (0,i3) cV aJ (qw _) ?_;rintro ⟨k,i3⟩ hk;try dsimp only at *
 refine Z<|aq U U<|Y<|za<|zh U (fun ck=>?_) (fun ck=>?_)
 ·have hk2:k<f.v.length:=by simp at ck;omega
  have hml:=xR hf hk2;have hmt:(dG f)[k]?=some (aE f k):=kJ hk2;have hkm:k<(dG f).length:=by rw[m2];exact hk2
  have hmk:(dG f)[k]=aE f k:=by rw[qt hkm] at hmt;exact Option.some.inj hmt
  refine zc<|za<|zd<|Z<|X (qn (j:=k) Yl Yt U U U (by omega))<|ax.nestShift Xa U (tQ hk2) .t1<|fun i15=>X (eO U)<|Y<|Z<|bX U<|X (y5 (cps:=[(0,[_]),(1,[_])]) (rs:=[_,_]) Eo U U U)<|zw (rows:=[[_,_]]) kK U U U U U<|yb (k:=2) Zm type114 U U U U U (fun _=>.head) (by rw[eP.av_len];rfl) (by decide) U (by show (_+1)*16≤_;omega) (by show _+1≤_;omega)<|fun i19=>X (eO U)<|Y<|bZ<|bX U<|bX U<|X (Gv.idxO (j:=0) Zm Ya U U U ⟨_,.head⟩ (by simp) (by show 0<_+1;omega))<|X (Gv.loadAG (l:=[_,_]) isAgg114 Ya U ⟨_,.head⟩ (by simp) (by simp) (Pn _))<|zw (rows:=[[_,_]]) kK U U U U U<|yb (k:=2) Zm type114 U U U U U (fun _=>.t1) (by rw[er (k:=2) (fun _=>rfl),w9,Nat.min_eq_left (by omega)]) (by decide) U (by show (_+1)*16≤_;omega) (by show _+1≤_;omega)<|fun i25=>X (eO U)<|Y<|yd (qe .head)<|bQ U U ?_;exact ⟨(k+1,i25),cV,cV,⟨_,(.refl _),by rw[←ft (qu hkm),hmk];rfl⟩,hk2,by dsimp only;omega⟩
 have hkn:k=f.v.length:=by simp at ck;omega
 subst hkn;rw[show (dG f).take f.v.length=dG f by rw[←m2 f,qy]];refine zt<|Z<|bX U<|X (eO U)<|Y<|zf ?_
 repeat (first|refine ad ?_|refine aa ?_)
 refine yv (aR.know (t:=2) (rows:=(dG f).map eP.row) U .head (by first|(intro r hr;obtain ⟨x,_,rfl⟩:=List.mem_map.1 hr;rfl)|simp[b7,bO,dQ,bu,bK]) (by decide) (by rw[w2,m2]))<|yz (x:=.fro _ _) U ?_
 rfl
theorem FQ (f:ab) (hf:small f) (hS:bN f):aS prog E 102 [.agg (bH f)] (.bool (nY f)):=by
 have hv:=hf.1;refine zm func102 U (by decide) U<|Z<|zx (cs:=_) U U U<|ah U<|Y<|za<|Z<|ae Z2 jk U U<|zy U (zk (.rest _)) (rH f hf hS) ?_;rintro r6 O6 ⟨b6,rfl,rfl⟩;refine X (Gv.lenN Yl U)<|C U<|Y<|yd (aR.nestKnow (s:=6) U .head (CR f))<|zd<|zu (γ:=Nat) [1,6,7] (fun k=>[(8,.i k)]) (fun k=>[]) (fun k=>k≤f.v.length∧(List.range k).all (lq f)=true) (fun k=>f.v.length - k) 0 aN aJ (⟨qw _,U⟩) ?_;rintro k ⟨hk,hall⟩;refine Z<|aq U U<|Y<|za<|zh U (fun ck=>?_) (fun ck=>?_)
 ·have hk2:k<f.v.length:=by simp at ck;omega
  refine zc<|za<|zd<|Z<|C U<|X (bD k Yl Yt U U U (tQ hk2))<|aK Xa U<|ap U<|X (oU U)<|Y<|Z<|bj U<|am Zm U<|bg U U<|aw U<|zo (s:=16) U (fun c1=>?_) (fun c1=>?_)
  ·have d1:1<(aZ f k).length:=by have h0:(1:Int)<((aZ f k).length:Int):=(by simpa using c1);omega
   refine H U U c1<|H U U c1<|H U U c1<|H U U c1<|zg U U<|zg U U<|zg U U<|zg U U<|zg U U<|H U U c1<|aA U c1 U<|Y<|ym U U<|Z<|ah U<|Y<|zf ?_
   repeat (first|refine ad ?_|refine aa ?_)
   refine bt U ?_;rw[show nY f=false from eG hk2 (by unfold lq;simp[d1])]
  have d1:¬1<(aZ f k).length:=by have h0:¬(1:Int)<((aZ f k).length:Int):=(by simpa using c1);omega
  refine M U U c1<|bj U<|M U U c1<|am Zm U<|M U U c1<|bg U U<|M U U c1<|aw U<|zo (s:=20) U (fun c2=>?_) (fun c2=>?_)
  ·have d2:aZ f k≠[]:=by have h0:0<(aZ f k).length:=(by simpa using c2);exact List.ne_nil_of_length_pos h0
   refine M U U c2<|C U<|M U U c2<|ao jf U jh U U<|M U U c2<|aK jy U<|M U U c2<|am j7 U<|M U U c2<|aq U U<|M U U c1<|aA U c2 U<|ay U c1 U<|Y<|zq U (fun c3=>?_) (fun c3=>?_)
   ·have d3:k<f.z.length:=by simpa using c3
    refine Z<|ah U<|Y<|zf ?_
    repeat (first|refine ad ?_|refine aa ?_)
    refine bt U ?_;rw[show nY f=false from eG hk2 (by unfold lq;simp[d2,d3,List.length_pos_iff])]
   have d3:¬k<f.z.length:=by simpa using c3
   refine zc<|bQ U U ?_;exact ⟨k+1,eX,aN,aJ,⟨hk2,du hall (by unfold lq;simp[d1,d3])⟩,by omega⟩
  have d2:aZ f k=[]:=by simpa using c2
  refine H U U c2<|H U U c2<|H U U c2<|H U U c2<|H U U c2<|M U U c1<|ay U c2 U<|ay U c1 U<|Y<|yl U U<|zc<|bQ U U ?_;exact ⟨k+1,eX,aN,aJ,⟨hk2,du hall (by unfold lq;simp[d2])⟩,by omega⟩
 have hkn:k=f.v.length:=by simp at ck;omega
 subst hkn;refine zt<|Z<|ah U<|Y<|zf ?_
 repeat (first|refine ad ?_|refine aa ?_)
 refine bt U ?_;rw[show nY f=true from hall]
end
end Go.Proofs.YtbbonnfjealmpaaGreatDoor
