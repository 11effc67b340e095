/- What is found among numbers; the fronts. No conditions but bounds. -/
import Derived.Test.YtdilpodccjlkgaaGreatDoorLe
import Derived.Test.YtdilpodccjlkgaaGreatDoorLi
import Derived.Test.YtdilpodccjlkgaaGreatDoorLh
import Derived.Test.YtdilpodccjlkgaaGreatDoorLc
set_option linter.unusedVariables false
set_option linter.unusedSimpArgs false
set_option linter.unusedSectionVars false
namespace Go.Proofs.YtdilpodccjlkgaaGreatDoor
open Go.Proofs.Tryz
def ly (l:List Bool) (bs:List Int):List Bool:=bs.foldl (fun l b=>l.set b.toNat true) l
theorem gX:∀(bs:List Int) (l:List Bool),(ly l bs).length=l.length
 |[],_=>rfl
 |b::bs,l=>by show (ly (l.set b.toNat true) bs).length=_;rw[gX bs,List.length_set]
theorem uq (l:List Bool) (bs:List Int) (b:Int):ly l (bs++[b])=(ly l bs).set b.toNat true:=by unfold ly;rw[List.foldl_append];rfl
theorem pP (k:Nat):∀(bs:List Int) (l:List Bool),(∀b∈bs,0≤b)→k<l.length→(ly l bs)[k]?=some (decide ((k:Int)∈bs)||(l[k]?).getD false)
 |[],l,_,hk=>by show l[k]?=_;rw[qi hk];simp
 |b::bs,l,h,hk=>by
  show (ly (l.set b.toNat true) bs)[k]?=_
  rw[pP k bs _ (fun c hc=>h c (.tail _ hc)) (by rw[List.length_set];exact hk),List.getElem?_set]
  have h0:=h b (.head _)
  by_cases e:b.toNat=k
  ·have:(k:Int)=b:=by omega
   rw[if_pos e,if_pos (by omega),this];simp
  ·have:¬(k:Int)=b:=by omega
   rw[if_neg e];simp[this]
def fC (E:Int→List Int) (n:Nat):List Bool:=ly (List.replicate n false) (aA E n)
theorem n4 (E:Int→List Int) (n:Nat):(fC E n).length=n:=by unfold fC;rw[gX];simp
theorem n5 {E:Int→List Int} {n:Nat} (hE:EOk E n) {k:Nat} (hk:k<n):(fC E n)[k]?=some (decide ((k:Int)∈aA E n)):=by
 unfold fC
 rw[pP k _ _ (fun b hb=>(cU hE hb).1) (by simp;exact hk)]
 simp[hk]
theorem kU {f:ad} (hE:bE f):(fC (ae f) f.blocks.length).contains false=false↔yQ f:=by
 have hG:=hE.grph.toEOk
 constructor
 ·intro h i hi
  have hg:=n5 hG hi
  apply (bL hG _).1
  apply Classical.byContradiction
  intro hn
  rw[qw hn] at hg
  have:=qs hg
  rw[Bool.eq_false_iff] at h
  exact h (by simpa using this)
 ·intro h
  rw[Bool.eq_false_iff]
  intro hc
  have hc:false∈fC (ae f) f.blocks.length:=by simpa using hc
  obtain ⟨k,hk,e⟩:=List.getElem_of_mem hc
  have hk2:=hk
  rw[n4] at hk2
  have hg:=n5 hG hk2
  rw[qi hk,e] at hg
  have hm:=(bL hG (k:Int)).2 (h k hk2)
  rw[qv hm] at hg
  cases hg
def AU (f:ad) (i:Nat) (p:eJ):Bool:=decide (iN p.from_=ba (ae f) f.blocks.length i)
def zH (f:ad) (i:Nat):Bool:=((f.blocks[i]?).map fun b=>b.phis.all (AU f i)).getD true
def cH (f:ad):Bool:=(List.range f.blocks.length).all (zH f)
theorem kg {f:ad} {i:Nat} {b:aN} (h:f.blocks[i]?=some b):zH f i=b.phis.all (AU f i):=by unfold zH;rw[h];rfl
theorem sH (f:ad):cH f=true↔yP f:=by
 unfold cH yP
 rw[qy]
 constructor
 ·intro h i hi p hp
  have:=h i (List.mem_range.2 hi)
  rw[kg (qi hi),qy] at this
  exact lV.1 (by simpa [AU] using this p hp)
 ·intro h i hi
  have hi:=List.mem_range.1 hi
  rw[kg (qi hi),qy]
  intro p hp
  simpa [AU] using lV.2 (h i hi p hp)
theorem bW {p:Nat→Bool} {k:Nat} (h:(List.range k).all p=true) (hk:p k=true):(List.range (k+1)).all p=true:=by rw[List.range_succ,List.all_append,h];simp[hk]
theorem dq {p:Nat→Bool} {k n:Nat} (hk:k<n) (h:p k=false):(List.range n).all p=false:=by
 rw[Bool.eq_false_iff];intro ha
 have:=List.all_eq_true.1 ha k (List.mem_range.2 hk)
 rw[h] at this;cases this
def bQ {α:Type} (n:Nat) (ev:List (Int × α)):List (List α):=(List.range n).map fun (v:Nat)=>(ev.filter fun e=>decide (e.1=(v:Int))).map (·.2)
theorem bX {α:Type} (n:Nat) (ev:List (Int × α)):(bQ n ev).length=n:=by unfold bQ;simp
theorem eh {α:Type} {n:Nat} (ev:List (Int × α)) {v:Nat} (h:v<n):(bQ n ev)[v]?=some ((ev.filter fun e=>decide (e.1=(v:Int))).map (·.2)):=by unfold bQ;rw[qq,List.getElem?_range h];rfl
theorem n6 {α:Type} (n:Nat):List.replicate n []=bQ (α:=α) n []:=by
 apply List.ext_getElem
 ·rw[bX];simp
 ·intro i h1 h2;unfold bQ;simp
theorem iz {α:Type} {n:Nat} {ev:List (Int × α)} {v:Nat} (h:v<(bQ n ev).length):(bQ n ev)[v].length≤ev.length:=by
 have h2:v<n:=by rwa [bX] at h
 have:=eh ev h2
 rw[qi h] at this
 rw[Option.some.inj this,qp]
 exact List.length_filter_le _ _
theorem jK {α:Type} {n:Nat} {ev:List (Int × α)} {c:Int} {x:α} (h0:0≤c) (h:c.toNat<(bQ n ev).length):(bQ n ev).set c.toNat ((bQ n ev)[c.toNat]++[x])=bQ n (ev++[(c,x)]):=by
 have h2:c.toNat<n:=by rwa [bX] at h
 apply List.ext_getElem?
 intro v
 rw[List.getElem?_set]
 by_cases hv:v<n
 ·rw[eh _ hv]
  have hr:=eh ev h2
  rw[qi h] at hr
  rw[Option.some.inj hr]
  by_cases e:c.toNat=v
  ·have:c=(v:Int):=by omega
   rw[if_pos e,if_pos (by rw[bX];omega),eh _ hv]
   have e2:((c.toNat:Nat):Int)=c:=by omega
   rw[e2,this,List.filter_append,qt]
   simp
  ·have:¬c=(v:Int):=by omega
   rw[if_neg e,eh _ hv]
   simp[List.filter_append,this]
 ·have hn:(bQ n (ev++[(c,x)]))[v]?=none:=List.getElem?_eq_none (by rw[bX];omega)
  rw[if_neg (by omega),hn,List.getElem?_eq_none (by rw[bX];omega)]
def cZ (i:Nat) (ps:List eJ):List (Int × f7):=ps.map fun p=>(p.dst,((i:Int),-1))
def fQ (i:Nat) (xs:List aB):List (Int × f7):=(xs.zipIdx.filter fun x=>decide (0≤x.1.dst)).map fun x=>(x.1.dst,((i:Int),(x.2:Int)))
def n7 (i:Nat) (b:aN):List (Int × f7):=cZ i b.phis++fQ i b.insts
def cX (f:ad) (k:Nat):List (Int × f7):=((f.blocks.take k).zipIdx).flatMap fun b=>n7 b.2 b.1
theorem qX {α:Type} {l:List α} {k:Nat} (h:k<l.length):(l.take (k+1)).zipIdx=(l.take k).zipIdx++[(l[k],k)]:=by
 rw[qj h,List.zipIdx_append,List.length_take,Nat.min_eq_left (by omega)]
 simp
theorem kh (i:Nat) {ps:List eJ} {j:Nat} (h:j<ps.length):cZ i (ps.take (j+1))=cZ i (ps.take j)++[(ps[j].dst,((i:Int),-1))]:=by
 unfold cZ;rw[qj h,qt];rfl
theorem gY (i:Nat) {xs:List aB} {j:Nat} (h:j<xs.length):fQ i (xs.take (j+1))=fQ i (xs.take j)++if 0≤xs[j].dst then[(xs[j].dst,((i:Int),(j:Int)))] else[]:=by
 unfold fQ;rw[qX h,List.filter_append,qt]
 by_cases h0:0≤xs[j].dst
 ·simp[h0]
 ·simp[h0]
theorem fD {f:ad} {k:Nat} (h:k<f.blocks.length):cX f (k+1)=cX f k++n7 k f.blocks[k]:=by
 unfold cX;rw[qX h,List.flatMap_append];simp
theorem n8 (i:Nat) (xs:List aB):(fQ i xs).length≤xs.length:=by
 unfold fQ;rw[qp];exact Nat.le_trans (List.length_filter_le _ _) (by simp)
theorem zI (i:Nat) (b:aN):(n7 i b).length≤b.phis.length+b.insts.length:=by
 have:=n8 i b.insts
 unfold n7 cZ;rw[qo,qp];omega
theorem sI {f:ad} {m:Nat} (h:∀b∈f.blocks,b.phis.length+b.insts.length≤m):∀k,k≤f.blocks.length→(cX f k).length≤k*m
 |0,_=>by simp[cX]
 |k+1,hk=>by
  have h1:=sI h k (by omega)
  have h2:=zI k f.blocks[k]
  have h3:=h _ (qm (show k<f.blocks.length by omega))
  rw[fD (by omega),qo,Nat.add_mul];omega
theorem BE (i v:Nat) (b:aN):((n7 i b).filter fun e=>decide (e.1=(v:Int))).map (·.2)=mo v i b:=by
 unfold n7 cZ fQ mo
 rw[List.filter_append,qt,List.filter_map,List.map_map,List.filter_map,List.map_map,List.filter_filter]
 congr 1
 congr 1
 apply List.filter_congr
 intro x _
 by_cases e:x.1.dst=(v:Int)
 ·have:0≤x.1.dst:=by omega
  simp[e]
 ·simp[e]
theorem lz (f:ad) (v:Nat):((cX f f.blocks.length).filter fun e=>decide (e.1=(v:Int))).map (·.2)=aZ f v:=by
 unfold cX aZ
 rw[qn,List.filter_flatMap,List.map_flatMap]
 congr 1
 funext b
 exact BE b.2 v b.1
def n9 (f:ad):List (List f7):=bQ f.vars.length (cX f f.blocks.length)
theorem oa {f:ad} {v:Nat} (h:v<f.vars.length):(n9 f)[v]?=some (aZ f v):=by unfold n9;rw[eh _ h,lz]
theorem ur (f:ad):(n9 f).length=f.vars.length:=bX _ _
def gZ (f:ad) (v:Nat):Bool:=!(decide (1<(aZ f v).length)||decide (0<(aZ f v).length)&&decide (v<f.params.length))
def kD (f:ad):Bool:=(List.range f.vars.length).all (gZ f)
theorem wQ (f:ad):kD f=true↔mq f:=by
 unfold kD mq gZ
 rw[qy]
 constructor
 ·intro h v hv
  have:=h v (List.mem_range.2 hv)
  simp only[Bool.not_eq_true',Bool.or_eq_false_iff,Bool.and_eq_false_iff,decide_eq_false_iff_not] at this
  refine ⟨by omega,fun hne=>?_⟩
  have hl:=List.length_pos_iff.2 hne
  rcases this.2 with h1|h1<;>omega
 ·intro h v hv
  obtain ⟨h1,h2⟩:=h v (List.mem_range.1 hv)
  simp only[Bool.not_eq_true',Bool.or_eq_false_iff,Bool.and_eq_false_iff,decide_eq_false_iff_not]
  refine ⟨by omega,?_⟩
  by_cases e:aZ f v=[]
  ·left;rw[e];simp
  ·right;have:=h2 e;omega
def bP (f:ad):List f7:=(List.range f.vars.length).map fun (v:Nat)=>aF f v
theorem mv {f:ad} {v:Nat} (h:v<f.vars.length):(bP f)[v]?=some (aF f v):=by unfold bP;rw[qq,List.getElem?_range h];rfl
theorem jL (f:ad):(bP f).length=f.vars.length:=by simp[bP]
def er (f:ad) (m:f7) (b at_:Int):Bool:=if m.1<0 then true else if m.1=b then decide (m.2<at_) else fj (ae f) f.blocks.length m.1 b
theorem gv {f:ad} (hE:bE f) (m:f7) (b at_:Int):er f m b at_=true↔go f m b at_:=by
 unfold er go
 by_cases h0:m.1<0
 ·rw[if_pos h0];simp[h0]
 ·rw[if_neg h0]
  by_cases h1:m.1=b
  ·rw[if_pos h1];simp[h1];omega
  ·rw[if_neg h1,hE.grph.domB_iff]
   constructor
   ·intro h;exact .inr (.inr ⟨by omega,h1,h⟩)
   ·rintro (h|h|h)
    ·exact absurd h h0
    ·exact absurd h.1 h1
    ·exact h.2.2
def C7 (f:ad) (p:eJ):Bool:=(p.args.zip p.from_).all fun q=>er f (aF f q.1) q.2 (fY f q.2)
def zJ (f:ad) (i:Nat) (x:aB × Nat):Bool:=x.1.args.all fun v=>er f (aF f v) i x.2
def DD (f:ad) (i:Nat) (b:aN):Bool:=decide (b.term.kind=0)||er f (aF f b.term.var) i b.insts.length
def pd (f:ad) (i:Nat) (b:aN):Bool:=b.phis.all (C7 f)&&b.insts.zipIdx.all (zJ f i)&&DD f i b
def D4 (f:ad) (i:Nat):Bool:=((f.blocks[i]?).map (pd f i)).getD true
def ut (f:ad):Bool:=(List.range f.blocks.length).all (D4 f)
theorem ob {f:ad} {i:Nat} {b:aN} (h:f.blocks[i]?=some b):D4 f i=pd f i b:=by unfold D4;rw[h];rfl
theorem sJ {f:ad} (hE:bE f) (i:Nat) (b:aN):pd f i b=true↔qO f i b:=by
 unfold pd qO
 rw[qx,qx,and_assoc]
 refine and_congr ?_ (and_congr ?_ ?_)
 ·rw[qy]
  refine forall_congr' fun p=>forall_congr' fun _=>?_
  unfold C7
  rw[qy]
  exact forall_congr' fun q=>forall_congr' fun _=>gv hE _ _ _
 ·rw[qy]
  constructor
  ·intro h k hk v hv
   have:=h (b.insts[k],k) (List.mem_zipIdx_iff_getElem?.2 (qi hk))
   unfold zJ at this
   rw[qy] at this
   exact (gv hE _ _ _).1 (this v hv)
  ·intro h x hx
   have hx:=List.mem_zipIdx_iff_getElem?.1 hx
   obtain ⟨hk,e⟩:=List.getElem?_eq_some_iff.1 hx
   unfold zJ
   rw[qy]
   intro v hv
   exact (gv hE _ _ _).2 (h x.2 hk v (by rw[e];exact hv))
 ·unfold DD
  rw[Bool.or_eq_true,w1,gv hE]
theorem zK {f:ad} (hE:bE f):ut f=true↔C0 f:=by
 unfold ut C0
 rw[qy]
 constructor
 ·intro h i hi
  have:=h i (List.mem_range.2 hi)
  rw[ob (qi hi)] at this
  exact (sJ hE _ _).1 this
 ·intro h i hi
  have hi:=List.mem_range.1 hi
  rw[ob (qi hi)]
  exact (sJ hE _ _).2 (h i hi)
def cQ (f:ad):Bool:=cH f&&(!(fC (ae f) f.blocks.length).contains false&&(kD f&&ut f))
theorem pQ {f:ad} (hE:bE f):cQ f=true↔sk f:=by
 unfold cQ sk
 rw[qx,qx,qx,Bool.not_eq_true',sH,kU hE,wQ,zK hE]
end Go.Proofs.YtdilpodccjlkgaaGreatDoor
namespace Go.Proofs.YtdilpodccjlkgaaGreatDoor
open Go.Proofs.Tryz
open Go.Proofs Go.Lib Go.Shelf Go.RowKit
variable {E:World}
set_option maxRecDepth 20000
theorem iA (f:ad) (hf:small f) (hL:bn E):aI prog E 64 [.agg (bD f)] (.bool (bc f)):=by
 refine zo func64 Z (by decide) Z<|ah<|ya (cs:=_) Z Z Z<|ab Z<|z6<|ah<|ac jj jh Z Z<|zf (n3 f hf hL) Z<|ak Z Z<|ab Z<|z6<|zh<|zk (x:=.bool _) Z ?_
 cases bc f<;>rfl
theorem cR {f:ad} (h:bc f=true):bE f:=by
 unfold bc at h
 rw[qx,fB] at h
 exact (qz h.1).ends
theorem mw (f:ad) (hf:small f) (hL:bn E) (ht:bc f=true):aI prog E 35 [.agg (bD f)] (kx eI (b5 f f.blocks.length)):=by
 have hn:=hf.2.2.1
 refine zo func35 Z (by decide) Z<|ah<|ya (cs:=_) Z Z Z<|za (iR Z)<|z6<|zd<|ah<|ac jj jh Z Z<|zf (iA f hf hL) Z<|aD Z<|z6<|ye Z (by rw[ht];rfl)<|zg<|ah<|ac jj jh Z Z<|zf (nO f (cR ht) (by omega)) Z<|za (oP Z)<|z6<|zh<|zk (x:=.fro _ _) Z ?_
 rfl
theorem mx (f:ad) (hE:bE f) (hn:f.blocks.length≤1000):aI prog E 98 [.agg (bD f)] (.fro 1 ((aA (ae f) f.blocks.length).map cE)):=
 ug f hE (by omega) fun l i T h=>sq l i T h
theorem sK (f:ad) (hf:small f) (hL:bn E) (ht:bc f=true):aI prog E 58 [.agg (bD f)] (.fro 1 ((aA (ae f) f.blocks.length).map cE)):=by
 have hn:=hf.2.2.1
 refine zo func58 Z (by decide) Z<|ah<|ya (cs:=_) Z Z Z<|za (iR Z)<|z6<|zd<|ah<|ac jj jh Z Z<|zf (iA f hf hL) Z<|aD Z<|z6<|ye Z (by rw[ht];rfl)<|zg<|ah<|ac jj jh Z Z<|zf (mx f (cR ht) (by omega)) Z<|za (oP Z)<|z6<|zh<|zk (x:=.fro _ _) Z ?_
 rfl
def wR (x:Bool):List AV:=[.bool x]
theorem uv (f:ad) (hE:bE f) (hn:f.blocks.length≤1000):aI prog E 129 [.agg (bD f)] (.fro 1 ((fC (ae f) f.blocks.length).map wR)):=by
 have hG:=hE.grph
 have hol:=eT hG
 refine zo func129 Z (by decide) Z<|ah<|ya (cs:=_) Z Z Z<|za (iR Z)<|z6<|ah<|aq je Z Z0 Z Z<|aH Zb Z<|ap ji Z<|ax.makeB (m:=f.blocks.length) Z1 type4 Z Z Z Z Z (by simp) (by simp) (by show (1:Int)*_≤_;omega) (by omega)<|fun i9=>za (lj Z)<|z6<|zd<|ah<|ac jj jh Z Z<|zf (mx f hE hn) Z<|ap wx Z<|aa Z<|z6<|zj<|y8 (γ:=Nat) [3,11,12] (fun k=>[(13,.int .i64 k)]) (fun k=>[(i9,.grow 1 4 (cB (ly (List.replicate f.blocks.length false) ((aA (ae f) f.blocks.length).take k))))]) (fun k=>k≤(aA (ae f) f.blocks.length).length) (fun k=>(aA (ae f) f.blocks.length).length - k) 0 aJ aE (ql _) ?_
 rintro k hk
 refine ah<|aw Z Z<|z6<|zd<|zw Z (fun ck=>?_) (fun ck=>?_)
 ·have hk2:k<(aA (ae f) f.blocks.length).length:=by simp at ck;omega
  obtain ⟨b,hb⟩:∃b,(aA (ae f) f.blocks.length)[k]=b:=⟨_,rfl⟩
  have hr:=cU hG.toEOk (hb▸qm hk2)
  refine zg<|zd<|zj<|ah<|za (bx k wx wz Z Z Z (by rw[qi hk2,hb])) ?_
  refine ay j6 Z<|ao Z<|z6<|aV<|za (gQ Z)<|aa Z<|za (yu (j:=b.toNat) Z1 Zj Z Z (by omega) ⟨_,.head⟩ (by rw[aS,gX];simp) (by omega))<|ax.storeB (j:=b.toNat) Zj Z Z .head (by rw[gX];simp;omega)<|z6<|aV<|aC Z Z<|aa Z<|z6 ?_
  exact ⟨k+1,dy,aJ,⟨_,(.refl _),by rw[qj hk2,uq,hb]⟩,hk2,by omega⟩
 ·have hkn:k=(aA (ae f) f.blocks.length).length:=by simp at ck;omega
  subst hkn
  rw[qn]
  refine y7<|ah<|za (gQ Z)<|za (lj Z)<|z6<|zy (aX.knowB (t:=2) Z .head (by rw[gX];simp))<|zh<|zk (x:=.fro _ _) Z ?_
  rfl
theorem sL (f:ad) (hf:small f) (hL:bn E) (ht:bc f=true):aI prog E 94 [.agg (bD f)] (.fro 1 ((fC (ae f) f.blocks.length).map wR)):=by
 have hn:=hf.2.2.1
 refine zo func94 Z (by decide) Z<|ah<|ya (cs:=_) Z Z Z<|za (iR Z)<|z6<|zd<|ah<|ac jj jh Z Z<|zf (iA f hf hL) Z<|aD Z<|z6<|ye Z (by rw[ht];rfl)<|zg<|ah<|ac jj jh Z Z<|zf (uv f (cR ht) (by omega)) Z<|za (oP Z)<|z6<|zh<|zk (x:=.fro _ _) Z ?_
 rfl
theorem sM (xs:List Bool) (v:Bool) (hl:xs.length≤281474976710656):aI prog E 128 [.fro 1 (xs.map wR),.bool v] (.int .i64 (bT (fun x=>decide (v=x)) xs 0)):=by
 refine zo func128 Z (by decide) Z<|ah<|ao Z<|z6<|zd<|ah<|bb Z<|ap Z1 Z<|aa Z<|z6<|zj<|y8 (γ:=Nat) [0,1,7] (fun k=>[(8,.int .i64 k)]) (fun k=>[]) (fun k=>k≤xs.length∧(xs.take k).all (fun x=>!decide (v=x))) (fun k=>xs.length - k) 0 aJ aE (⟨ql _,Z⟩) ?_
 rintro k ⟨hk,hall⟩
 refine ah<|aw Z Z<|z6<|zd<|zw Z (fun ck=>?_) (fun ck=>?_)
 ·have hk2:k<xs.length:=by simp at ck;omega
  refine zg<|zd<|zj<|ah<|aa Z<|ao Z<|z6<|ah<|ai Z<|bb Z<|aa Z<|za (bx k Z1 Zj Z Z Z (qi hk2))<|za (yo (c:=.bool _) Yh Z)<|za (Gv.eqlB Zy Z Z)<|z6<|zu Z (fun cp=>?_) (fun cp=>?_)
  ·refine ah<|aa Z<|ao Z<|z6<|zh<|zk (x:=.int _ _) Z ?_
   rw[bq _ xs k hk hall,List.drop_eq_getElem_cons hk2,bT,if_pos (by simpa using cp)]
  ·refine zg<|aV<|aC Z Z<|aa Z<|z6 ?_
   exact ⟨k+1,dy,aJ,aE,⟨hk2,by rw[qj hk2,List.all_append,hall];simpa using cp⟩,by omega⟩
 ·have hkn:k=xs.length:=by simp at ck;omega
  refine y7<|ah<|ao Z<|z6<|zh<|zk (x:=.int _ _) Z ?_
  rw[bq _ xs k hk hall,hkn,List.drop_length,bT]
theorem oc (xs:List Bool) (v:Bool) (hl:xs.length≤281474976710656):aI prog E 93 [.fro 1 (xs.map wR),.bool v] (.bool (xs.contains v)):=by
 refine zo func93 Z (by decide) Z<|ah<|ab Z<|z6<|ah<|bb Z<|ai Z<|zf (sM xs v hl) Z<|za (q3 Z Z)<|ab Z<|z6<|zh<|zk (x:=.bool _) Z ?_
 rw[ej];congr 1;rw[qr];simp
theorem C8 (xs:List Int) (hl:xs.length≤1000):aU prog E 120 [.fro 1 (xs.map cE)] [] (fun x O'=>∃i:Nat,x=.own i xs.length∧O'=[(i,.grow 1 3 (cI xs))]):=by
 refine zo func120 Z (by decide) Z<|ah<|za (iR Z)<|z6<|zd<|ah<|bb Z<|ax.isNil wx Z Z (fun hnil=>?_) ?_
 ·have hx:xs=[]:=by simpa using hnil
  subst hx
  refine z6<|yl Z Z<|ah<|za (iR Z)<|z6<|zh ?_
  repeat (first|refine f9 ?_|refine eO ?_)
  refine pw (s:=2) (k:=1) (T:=3) Z (fun i=>?_)
  refine zk (x:=.own _ _) Z ?_
  exact ⟨i,rfl,rfl⟩
 ·refine z6<|ye Z Z<|zg<|ah<|ax.buildSlice0 (k:=1) wx type3<|fun i5=>bb Z<|yj (k:=1) wx type3 Z Z Z Z Z (fun _=>.head) (by simp) (by decide) (sy (fun _=>Z) xs) (by show (_+_)*8≤_;simp<;>omega) (by simp<;>omega)<|fun i7=>za (lj Z)<|z6<|zh<|zk (x:=.own _ _) Z ?_
  exact ⟨i7,(by simp),by rw[←qF];rfl⟩
theorem iB (f:ad) {k:Nat} (h:k<f.blocks.length):(b5 f f.blocks.length)[k]?=some (ba (ae f) f.blocks.length (k:Int)):=by unfold b5;rw[qq,List.getElem?_range h];rfl
theorem sN (f:ad) (hE:bE f) (hf:small f):aI prog E 127 [.agg (bD f)] (.bool (cH f)):=by
 have hn:=hf.2.2.1
 refine zo func127 Z (by decide) Z<|ah<|ya (cs:=_) Z Z Z<|ab Z<|z6<|ah<|ac jj jh Z Z<|zf (nO f hE (by omega)) Z<|za (oP Z)<|z6<|zd<|ah<|aq je Z Z0 Z Z<|aH Zb Z<|ap ji Z<|aa Z<|z6<|zj<|y8 (γ:=Nat) [3,12,13] (fun k=>[(14,.int .i64 k)]) (fun k=>[]) (fun k=>k≤f.blocks.length∧(List.range k).all (zH f)=true) (fun k=>f.blocks.length - k) 0 aJ aE (⟨ql _,Z⟩) ?_
 rintro k ⟨hk,hall⟩
 refine ah<|aw Z Z<|z6<|zd<|zw Z (fun ck=>?_) (fun ck=>?_)
 ·have hk2:k<f.blocks.length:=by simp at ck;omega
  obtain ⟨b,hbk⟩:∃b,f.blocks[k]=b:=⟨_,rfl⟩
  have hget:f.blocks[k]?=some b:=by rw[qi hk2,hbk]
  obtain ⟨hb0,hb1,hb2,hb3,hb4⟩:=hf.2.2.2.2 b (hbk▸qm hk2)
  refine zg<|zd<|zj<|ah<|aa Z<|za (bx k ji ju Z Z Z hget)<|ac Y4 ju Z Z<|y5 (cs:=[.str ⟨#[]⟩,.raw (.slice none 0 0),.raw (.slice none 0 0),.int .i64 0,.int .i64 0,.int .i64 0,.int .i64 0]) Zc Z Z<|fun i5=>ao Z<|zz ju Z Z Z Z Z Z .head Z<|ze (yd (t:=5) Z .head)<|z6<|ah<|aq jg Z Y9 Z Z<|aH Yj Z<|ap jz Z<|aa Z<|z6<|zj<|y8 (γ:=Nat) [3,4,12,13,14,20,21] (fun j=>[(22,.int .i64 j)]) (fun j=>[]) (fun j=>j≤b.phis.length∧(b.phis.take j).all (AU f k)=true) (fun j=>b.phis.length - j) 0 aJ aE (⟨ql _,Z⟩) ?_
  rintro j ⟨hj,hjall⟩
  refine ah<|aw Z Z<|z6<|zd<|zw Z (fun cj=>?_) (fun cj=>?_)
  ·have hj2:j<b.phis.length:=by simp at cj;omega
   have hpf:=(hb3 _ (qm hj2)).2
   refine zg<|zd<|zj<|ah<|za (bx j jz Z8 Z Z Z (qi hj2))<|ac Yo Z8 Z Z<|y5 (cs:=[.int .i64 0,.raw (.slice none 0 0),.raw (.slice none 0 0)]) Y6 Z Z<|fun i7=>zz Z8 Z Z Z Z Z Z .head Z<|ze (yd (t:=7) Z .head)<|z6<|ah<|aq jx Z j5 Z Z<|aH j9 Z<|zr Z (zm (.rest _)) (C8 b.phis[j].from_ hpf) ?_
   rintro r28 O28 ⟨i8,rfl,rfl⟩
   refine za (lj Z)<|z6<|ah<|za (gQ Z)<|zr Z (zm (.l (.rest _))) (sr b.phis[j].from_ i8 _ (by omega)) ?_
   rintro r30 O30 ⟨rfl,rfl⟩
   refine z6<|zy (aX.knowI (t:=8) Z .head (by rw[(ec _).length_eq]))<|ah<|bb Z<|bb Z<|aa Z<|za (bx k jf j5 Z Z Z (iB f hk2))<|aH j9 Z<|zf (ml (iN b.phis[j].from_) (ba (ae f) f.blocks.length (k:Int)) (by unfold nG;rw[(ec _).length_eq];omega)) Z<|aD Z<|z6<|zu Z (fun cq=>?_) (fun cq=>?_)
   ·refine ah<|ab Z<|z6<|zh<|zk (x:=.bool _) Z ?_
    rw[show cH f=false from dq hk2 (by rw[kg hget];exact Bool.eq_false_iff.2 (cG hj2 (by simpa [AU] using cq)))]
   ·refine zg<|aV<|aC Z Z<|aa Z<|z6 ?_
    exact ⟨j+1,kA,aJ,aE,⟨hj2,bt hj2 hjall (by simpa [AU] using cq)⟩,by omega⟩
  ·have hjn:j=b.phis.length:=by simp at cj;omega
   subst hjn
   rw[qn] at hjall
   refine y7<|aV<|aC Z Z<|aa Z<|z6 ?_
   exact ⟨k+1,dy,aJ,aE,⟨hk2,bW hall (by rw[kg hget];exact hjall)⟩,by omega⟩
 ·have hkn:k=f.blocks.length:=by simp at ck;omega
  subst hkn
  refine y7<|ah<|ab Z<|z6<|zh<|zk (x:=.bool _) Z ?_
  rw[show cH f=true from hall]
theorem qY (f:ad) (hf:small f) (hL:bn E):aI prog E 92 [.agg (bD f)] (.int .i64 (if (bc f&&cH f)=true then 0 else 3)):=by
 refine zo func92 Z (by decide) Z<|ah<|ya (cs:=_) Z Z Z<|ao Z<|z6<|zd<|ah<|ac jj jh Z Z<|zf (iA f hf hL) Z<|aD Z<|ai Z<|zp (s:=6) Z (fun ct=>?_) (fun ct=>?_)
 ·refine z7 Z Z ct<|z7 Z Z ct<|z7 Z Z ct<|ar Z ct Z<|z6<|yl Z Z<|ah<|ao Z<|z6<|zh<|zk (x:=.int _ _) Z ?_
  rw[show bc f=false by simpa using ct];rfl
 ·have ht:bc f=true:=by simpa using ct
  refine z8 Z Z ct<|ac jj jh Z Z<|z8 Z Z ct<|zf (sN f (cR ht) hf) Z<|z8 Z Z ct<|aD Z<|au Z ct Z<|z6<|zu Z (fun cj=>?_) (fun cj=>?_)
  ·refine ah<|ao Z<|z6<|zh<|zk (x:=.int _ _) Z ?_
   rw[show cH f=false by simpa using cj];simp
  ·refine zg<|ah<|ao Z<|z6<|zh<|zk (x:=.int _ _) Z ?_
   rw[ht,show cH f=true by simpa using cj];rfl
end Go.Proofs.YtdilpodccjlkgaaGreatDoor
namespace Go.Proofs.YtdilpodccjlkgaaGreatDoor
open Go.Proofs.Tryz
section
variable {S:Int→List Int} {at_:Int→Int} {V:List Int} {N:Int→Int}
theorem wS (hV:oQ S at_ V) (hN:gL S at_ V N) {K:Nat} (hK:∀a b,a∈V→b∈V→at_ a+at_ b<K) {x y:Int} (hx:N x≠-1) (hy:N y≠-1) (hlt:at_ y<at_ x) :
  x≠0∧N (N x)≠-1∧at_ (N x)<at_ x∧dw N at_ K x y=dw N at_ K (N x) y:=by
 have h1:=(hV.pos x).1 (hN.mem x hx)
 have h2:=(hV.pos y).1 (hN.mem y hy)
 have h3:=hK x y (hN.mem x hx) (hN.mem y hy)
 have hx0:x≠0:=fun e=>by rw[e,hV.zero] at hlt;omega
 obtain ⟨g1,g2,g3⟩:=hN.near x hx0 hx
 refine ⟨hx0,g2,g3,?_⟩
 obtain ⟨k,rfl⟩:∃k,K=k+1:=⟨K - 1,by omega⟩
 have hm:=jZ hV hN k (k+1) (N x) y g2 hy (by omega) (by omega)
 rw[hm]
 show (if x=y then x else if at_ y<at_ x then dw N at_ k (N x) y else dw N at_ k x (N y))=_
 rw[if_neg (fun e=>by rw[e] at hlt;omega),if_pos hlt]
theorem uw (hV:oQ S at_ V) (hN:gL S at_ V N) {K:Nat} (hK:∀a b,a∈V→b∈V→at_ a+at_ b<K) {x y:Int} (hx:N x≠-1) (hy:N y≠-1) (hlt:at_ x<at_ y) :
  y≠0∧N (N y)≠-1∧at_ (N y)<at_ y∧dw N at_ K x y=dw N at_ K x (N y):=by
 have h1:=(hV.pos x).1 (hN.mem x hx)
 have h2:=(hV.pos y).1 (hN.mem y hy)
 have h3:=hK x y (hN.mem x hx) (hN.mem y hy)
 have hy0:y≠0:=fun e=>by rw[e,hV.zero] at hlt;omega
 obtain ⟨g1,g2,g3⟩:=hN.near y hy0 hy
 refine ⟨hy0,g2,g3,?_⟩
 obtain ⟨k,rfl⟩:∃k,K=k+1:=⟨K - 1,by omega⟩
 have hm:=jZ hV hN k (k+1) x (N y) hx g2 (by omega) (by omega)
 rw[hm]
 show (if x=y then x else if at_ y<at_ x then dw N at_ k (N x) y else dw N at_ k x (N y))=_
 rw[if_neg (fun e=>by rw[e] at hlt;omega),if_neg (by omega)]
theorem wT {K:Nat} (hK:0<K) (x:Int):dw N at_ K x x=x:=by
 obtain ⟨k,rfl⟩:∃k,K=k+1:=⟨K - 1,by omega⟩
 show (if x=x then x else _)=x
 rw[if_pos rfl]
end
def sO (n:Nat) (V:List Int) (k:Nat):List Int:=((V.take k).zipIdx).foldl (fun l p=>l.set p.1.toNat (p.2:Int)) (List.replicate n (-1))
theorem lY {α:Type} {g:List Int→α→List Int} (h:∀l x,(g l x).length=l.length):∀(ws:List α) (l:List Int),(ws.foldl g l).length=l.length
 |[],_=>rfl
 |w::ws,l=>by rw[List.foldl_cons,lY h ws,h]
theorem od (n:Nat) (V:List Int) (k:Nat):(sO n V k).length=n:=by unfold sO;rw[lY (fun l x=>List.length_set)];simp
theorem wU {n:Nat} {V:List Int} {k:Nat} (h:k<V.length):(sO n V k).set V[k].toNat (k:Int)=sO n V (k+1):=by
 unfold sO;rw[qX h,List.foldl_append];rfl
theorem sP (n:Nat) (V:List Int):sO n V V.length=dz n V:=by unfold sO dz;rw[qn]
section
variable {S:Int→List Int} {at_ V:List Int} {preds:Int→List Int} {n:Nat}
def oe (at_:List Int) (K:Nat) (preds:Int→List Int) (V l:List Int) (q:Nat):List Int:=((V.drop 1).take q).foldl (gW at_ K preds) l
theorem ux {K q:Nat} {l:List Int} (h:q<(V.drop 1).length):oe at_ K preds V l (q+1)=gW at_ K preds (oe at_ K preds V l q) (V.drop 1)[q]:=by
 unfold oe;rw[qj h,List.foldl_append];rfl
theorem wW {K:Nat} {l:List Int}:oe at_ K preds V l (V.drop 1).length=pD at_ K preds V l:=by
 unfold oe pD;rw[qn,List.drop_one]
theorem wY {K q:Nat} (l:List Int):(oe at_ K preds V l q).length=l.length:=nI K _ _
end
section
variable {E:Int→List Int} {n:Nat}
theorem pR (hE:fi E n) {b p:Int} (h:p∈ba E n b):0≤p∧p<n:=by
 unfold ba at h
 obtain ⟨i,h1,h2⟩:=List.mem_flatMap.1 h
 obtain ⟨c,_,rfl⟩:=List.mem_map.1 h2
 exact cJ.1 h1
def bd (E:Int→List Int) (n:Nat):List Int:=(bl E n).set 0 (-1)
theorem eU (E:Int→List Int) (n:Nat):(bd E n).length=n:=by unfold bd;rw[List.length_set,kb]
theorem dS {b:Int} (h0:0≤b) (hb:b≠0):gi (bd E n) b=gi (bl E n) b:=by
 unfold bd gi
 rw[if_pos h0,if_pos h0,List.getElem?_set_ne (by omega)]
theorem na (hn:0<n):gi (bd E n) 0=-1:=by
 unfold bd gi
 rw[if_pos (Int.le_refl _)]
 simp[kb,hn]
end
theorem uy (N at_:Int→Int) (K:Nat) (p:Int) (ps:List Int) (m:Int):fu N at_ K (p::ps) m=fu N at_ K ps (if at_ p=-1∨N p=-1 then m else if m=-1 then p else dw N at_ K m p):=rfl
end Go.Proofs.YtdilpodccjlkgaaGreatDoor
namespace Go.Proofs.YtdilpodccjlkgaaGreatDoor
open Go.Proofs.Tryz
open Go.Proofs
variable {E:World}
set_option maxRecDepth 20000
theorem wZ {S:Int→List Int} {V nr al:List Int} {n K i j:Nat} {T T':TypeId} (hV:oQ S (gi al) V) (hN:gL S (gi al) V (gi nr)) (hK:∀a b,a∈V→b∈V→gi al a+gi al b<K) (hK0:0<K) (hnl:nr.length=n) (hal:al.length=n) (hlt:∀b∈V,b<n) {a b:Int} (ha:gi nr a≠-1) (hb:gi nr b≠-1) :
  aU prog E 99 [.agg [.own i n,.own j n],.int .i64 a,.int .i64 b] [(j,.grow 1 T' (cI al)),(i,.grow 1 T (cI nr))]
   fun r O=>r=.int .i64 (dw (gi nr) (gi al) K a b)∧O=[(j,.grow 1 T' (cI al)),(i,.grow 1 T (cI nr))]:=by
 have hget:∀x,gi nr x≠-1→0≤x∧x.toNat<n:=fun x hx=>by
  have hm:=hN.mem x hx
  have:=hV.nn x hm
  have:=hlt x hm
  omega
 have hNl:∀x,gi nr x≠-1→nr[x.toNat]?=some (gi nr x):=fun x hx=>fy (hget x hx).1 (by rw[hnl];exact (hget x hx).2)
 have hAl:∀x,gi nr x≠-1→al[x.toNat]?=some (gi al x):=fun x hx=>fy (hget x hx).1 (by rw[hal];exact (hget x hx).2)
 have hpos:∀x,gi nr x≠-1→0≤gi al x:=fun x hx=>(hV.pos x).1 (hN.mem x hx)
 refine zo func99 Z (by decide) Z<|ah<|yi (cs:=_) Z Z Z Z<|fun i3=>ao Z<|z6<|zd<|zj<|y8 (γ:=Int × Int) [3] (fun g=>[(1,.int .i64 g.1),(2,.int .i64 g.2)]) (fun g=>[(i3,.cells 167 [.own i n,.own j n]),(j,.grow 1 T' (cI al)),(i,.grow 1 T (cI nr))]) (fun g=>gi nr g.1≠-1∧gi nr g.2≠-1∧dw (gi nr) (gi al) K g.1 g.2=dw (gi nr) (gi al) K a b) (fun g=>(gi al g.1+gi al g.2).toNat) (a,b) eZ aE (⟨ha,hb,Z⟩) ?_
 rintro ⟨x,y⟩ ⟨hx,hy,hm⟩
 try dsimp only at *
 refine zd<|ah<|aa Z<|aa Z<|aL Z Z<|z6<|zu Z (fun cxy=>?_) (fun cxy=>?_)
 ·have hxy:x≠y:=by simpa using cxy
  refine zg<|zj<|zd<|zj<|y8 (γ:=Int) [2,3] (fun u=>[(1,.int .i64 u)]) (fun u=>[(i3,.cells 167 [.own i n,.own j n]),(j,.grow 1 T' (cI al)),(i,.grow 1 T (cI nr))]) (fun u=>gi nr u≠-1∧dw (gi nr) (gi al) K u y=dw (gi nr) (gi al) K a b∧(u=x∨gi al u<gi al x)) (fun u=>(gi al u).toNat) x aJ aE (⟨hx,hm,.inl Z⟩) ?_
  rintro u ⟨hu,hmu,hux⟩
  refine zd<|zd<|zt (fun j=>false) (by kernel_rfl) Z (zm (.r (.r (.r (.rest _)))))<|aj 0 Z (zn Zh Z j5 (by decide) Z Z)<|aj 1 Z (zq (c:=.own _ _) j9 Z ⟨_,.head⟩ Z)<|aj 2 Z (dF Z)<|aj 3 Z (yu (j:=u.toNat) wx wz Z Z (by have:=hget u hu;omega) ⟨_,.t1⟩ (by first|rfl|(simp[aQ,aS];done)|(simp[aQ,aS];omega)) (hget u hu).2)<|aj 4 Z (q9 (j:=u.toNat) j6 Z ⟨_,.t1⟩ (hAl u hu))<|aj 5 Z (zn Zh Z j5 (by decide) Z Z)<|aj 6 Z (zq (c:=.own _ _) j9 Z ⟨_,.head⟩ Z)<|aj 7 Z (dF Z)<|aj 8 Z (yu (j:=y.toNat) wx wz Z Z (by have:=hget y hy;omega) ⟨_,.t1⟩ (by first|rfl|(simp[aQ,aS];done)|(simp[aQ,aS];omega)) (hget y hy).2)<|aj 9 Z (q9 (j:=y.toNat) j6 Z ⟨_,.t1⟩ (hAl y hy))<|aj 10 Z (yx Z Z)<|bV<|zu Z (fun c1=>?_) (fun c1=>?_)
  ·have c1:gi al y<gi al u:=by simpa using c1
   obtain ⟨h1,h2,h3,h4⟩:=wS hV hN hK hu hy c1
   have hp:=hpos u hu
   have hp':=hpos _ h2
   refine zg<|zj<|aV<|za (zn Zh Z j5 (by decide) Z Z)<|za (zq (c:=.own _ _) j9 Z ⟨_,.head⟩ Z)<|aa Z<|za (yu (j:=u.toNat) wx wz Z Z (by have:=hget u hu;omega) ⟨_,.t2⟩ (by first|rfl|(simp[aQ,aS];done)|(simp[aQ,aS];omega)) (hget u hu).2)<|za (q9 (j:=u.toNat) j6 Z ⟨_,.t2⟩ (hNl u hu))<|ao Z<|z6 ?_
   exact ⟨gi nr u,eZ,aJ,aE,⟨h2,by rw[←h4];exact hmu,.inr (by rcases hux with rfl|h<;>omega)⟩,by omega⟩
  ·have c1:¬gi al y<gi al u:=by simpa using c1
   refine y7<|zj<|y8 (γ:=Int) [1,3] (fun z=>[(2,.int .i64 z)]) (fun z=>[(i3,.cells 167 [.own i n,.own j n]),(j,.grow 1 T' (cI al)),(i,.grow 1 T (cI nr))]) (fun z=>gi nr z≠-1∧dw (gi nr) (gi al) K u z=dw (gi nr) (gi al) K a b∧(z=y∨gi al z<gi al y)) (fun z=>(gi al z).toNat) y aJ aE (⟨hy,hmu,.inl Z⟩) ?_
   rintro z ⟨hz,hmz,hzy⟩
   refine zd<|zd<|zt (fun j=>false) (by kernel_rfl) Z (zm (.r (.r (.r (.rest _)))))<|aj 0 Z (zn Zh Z j5 (by decide) Z Z)<|aj 1 Z (zq (c:=.own _ _) j9 Z ⟨_,.head⟩ Z)<|aj 2 Z (dF Z)<|aj 3 Z (yu (j:=z.toNat) wx wz Z Z (by have:=hget z hz;omega) ⟨_,.t1⟩ (by first|rfl|(simp[aQ,aS];done)|(simp[aQ,aS];omega)) (hget z hz).2)<|aj 4 Z (q9 (j:=z.toNat) j6 Z ⟨_,.t1⟩ (hAl z hz))<|aj 5 Z (zn Zh Z j5 (by decide) Z Z)<|aj 6 Z (zq (c:=.own _ _) j9 Z ⟨_,.head⟩ Z)<|aj 7 Z (dF Z)<|aj 8 Z (yu (j:=u.toNat) wx wz Z Z (by have:=hget u hu;omega) ⟨_,.t1⟩ (by first|rfl|(simp[aQ,aS];done)|(simp[aQ,aS];omega)) (hget u hu).2)<|aj 9 Z (q9 (j:=u.toNat) j6 Z ⟨_,.t1⟩ (hAl u hu))<|aj 10 Z (yx Z Z)<|bV<|zu Z (fun c2=>?_) (fun c2=>?_)
   ·have c2:gi al u<gi al z:=by simpa using c2
    obtain ⟨h1,h2,h3,h4⟩:=uw hV hN hK hu hz c2
    have hp:=hpos z hz
    have hp':=hpos _ h2
    refine zg<|zj<|aV<|za (zn Zh Z j5 (by decide) Z Z)<|za (zq (c:=.own _ _) j9 Z ⟨_,.head⟩ Z)<|aa Z<|za (yu (j:=z.toNat) wx wz Z Z (by have:=hget z hz;omega) ⟨_,.t2⟩ (by first|rfl|(simp[aQ,aS];done)|(simp[aQ,aS];omega)) (hget z hz).2)<|za (q9 (j:=z.toNat) j6 Z ⟨_,.t2⟩ (hNl z hz))<|ao Z<|z6 ?_
    exact ⟨gi nr z,eZ,aJ,aE,⟨h2,by rw[←h4];exact hmz,.inr (by rcases hzy with rfl|h<;>omega)⟩,by omega⟩
   ·have c2:¬gi al u<gi al z:=by simpa using c2
    have hp1:=hpos x hx
    have hp2:=hpos y hy
    have hp3:=hpos u hu
    have hp4:=hpos z hz
    have hin:gi al x=gi al y→x=y:=fun e=>hV.inj x y (hN.mem x hx) (hN.mem y hy) e
    refine y7 ?_
    exact ⟨(u,z),aJ,eZ,aE,⟨hu,hz,hmz⟩,by dsimp only;rcases hux with rfl|hux<;>rcases hzy with rfl|hzy<;>omega⟩
 ·have hxy:x=y:=by simpa using cxy
  subst hxy
  rw[wT hK0] at hm
  refine y7<|ah<|aa Z<|ao Z<|z6<|zy (aX.drop .head)<|zh<|zk (x:=.int _ _) Z ?_
  exact ⟨by rw[hm],rfl⟩
end Go.Proofs.YtdilpodccjlkgaaGreatDoor
namespace Go.Proofs.YtdilpodccjlkgaaGreatDoor
open Go.Proofs.Tryz
open Go.Proofs
theorem D5:de prog 167 #[(0,1),(1,1)] [.raw (.slice none 0 0),.raw (.slice none 0 0)]:=⟨_,_,Zh,zeroValue167,fun w=>by kernel_rfl,rfl⟩
variable {E:World}
set_option maxRecDepth 20000
theorem qZ (f:ad) (hE:bE f) (hn:f.blocks.length≤1000):aU prog E 59 [.fro 1 ((aA (ae f) f.blocks.length).map cE),kx eI (b5 f f.blocks.length),.int .i64 f.blocks.length] []
  fun x O'=>∃i:Nat,x=.own i f.blocks.length∧O'=[(i,.grow 1 3 (cI (bd (ae f) f.blocks.length)))]:=by
 have hG:=hE.grph
 have hk:=hG.gok
 have hpos:=hG.npos
 have hol:=eT hG
 obtain ⟨n,hnn⟩:∃n,f.blocks.length=n:=⟨_,rfl⟩
 obtain ⟨S,hS⟩:∃S,ae f=S:=⟨_,rfl⟩
 have hrow:∀k,k<n→(b5 f n)[k]?=some (ba S n (k:Int)):=fun k h=>by rw[←hnn,←hS];exact iB f (by omega)
 rw[hnn] at hk hG hpos hol hn ⊢
 rw[hS] at hk hG hol ⊢
 obtain ⟨V,hVe⟩:∃V,aA S n=V:=⟨_,rfl⟩
 have hNG:pF (dz n V) V (ba S n) n=bl S n:=by rw[←hVe];rfl
 rw[hVe] at hk hol ⊢
 have hVp:=hk.pos
 have hK:=hk.K
 have hdl:(V.drop 1).length+1=V.length:=by simp;omega
 refine zo func59 Z (by decide) Z<|ah<|za (iR Z)<|z6<|ah<|y3 (rows:=[[_]]) cf Z Z Z Z Z<|aa Z<|zr Z (zm (.rest _)) (aK (-1) n (by omega) hpos) ?_
 rintro r18 O18 ⟨i18,rfl,rfl⟩
 refine y3 (rows:=[[_]]) cf Z Z Z Z Z<|aa Z<|zr Z (zm (.r (.rest _))) (aK (-1) n (by omega) hpos) ?_
 rintro r21 O21 ⟨i21,rfl,rfl⟩
 refine za (y4 (cps:=[(0,[_]),(1,[_])]) (rs:=[_,_]) D5 Z Z Z)<|y5 (cs:=[.raw (.slice none 0 0),.raw (.slice none 0 0)]) zeroValue167 Z Z<|fun i7=>zz sizeOf167 Z Z Z Z Z Z .head Z<|z6<|zd<|ah<|bb Z<|ap wx Z<|aa Z<|z6<|zj<|y8 (γ:=Nat) [0,1,7,23,24] (fun k=>[(25,.int .i64 k)]) (fun k=>[(i7,.cells 167 [.own i18 n,.own i21 n]),(i21,.grow 1 3 (cI (sO n V k))),(i18,.grow 1 3 (cI (List.replicate n (-1))))]) (fun k=>k≤V.length) (fun k=>V.length - k) 0 aJ aE (ql _) ?_
 rintro k hkl
 refine ah<|aw Z Z<|z6<|zd<|zw Z (fun ck=>?_) (fun ck=>?_)
 ·have hk2:k<V.length:=by simp at ck;omega
  have hb:=hk.lt _ (qm hk2)
  have hb0:=hk.ord.nn _ (qm hk2)
  refine zg<|zd<|zj<|ah<|aa Z<|za (bx k wx wz Z Z Z (qi hk2))<|ay j6 Z<|ao Z<|ao Z<|z6<|aV<|za (zn Zh Z j5 (by decide) Z Z)<|za (zq (c:=.own _ _) j9 Z ⟨_,.head⟩ Z)<|aa Z<|aa Z<|za (yu (j:=V[k].toNat) wx wz Z Z (by omega) ⟨_,.t1⟩ (by rw[aQ,od]) (by omega))<|ax.storeI (j:=V[k].toNat) wz Z Z .t1 (by rw[od];omega)<|z6<|aV<|aC Z Z<|aa Z<|z6 ?_
  exact ⟨k+1,wi,aJ,⟨_,(.refl _),by rw[wU hk2]⟩,hk2,by omega⟩
 ·have hkn:k=V.length:=by simp at ck;omega
  subst hkn
  rw[sP]
  have hatl:(dz n V).length=n:=by rw[←sP];exact od n V _
  have hatg:∀x:Int,0≤x→x<n→(dz n V)[x.toNat]?=some (gi (dz n V) x):=fun x h1 h2=>fy h1 (by omega)
  refine y7<|ah<|za (zn Zh Z j5 (by decide) Z Z)<|za (zq (c:=.own _ _) j9 Z ⟨_,.head⟩ Z)<|za (yu (j:=0) wx wz Z Z Z ⟨_,.t2⟩ (by first|rfl|(simp[aQ,aS];done)|(simp[aQ,aS];omega)) (by omega))<|ax.storeI (j:=0) wz Z Z .t2 (by first|omega|(simp;omega))<|z6<|zd<|ah<|ab Z<|z6<|zj<|y8 (γ:=Nat × Bool × List Int) [0,1,7] (fun g=>[(10,.bool g.2.1)]) (fun g=>[(i7,.cells 167 [.own i18 n,.own i21 n]),(i21,.grow 1 3 (cI (dz n V))),(i18,.grow 1 3 (cI g.2.2))]) (fun g=>lm S (gi (dz n V)) V (gi g.2.2) g.1 1∧g.2.2.length=n∧(g.2.1=true→g.1≤V.length)∧(g.2.1=false→g.2.2=bl S n)) (fun g=>(if g.2.1=true then V.length+1 - g.1 else 0)) (0,true,eK n) aJ aE (⟨hk.begin,kO n,fun _=>ql _,fun h=>by cases h⟩) ?_
  rintro ⟨j,again,l⟩ ⟨hR,hl,hj,hfin⟩
  try dsimp only at *
  refine zd<|ah<|ai Z<|z6<|zu Z (fun ca=>?_) (fun ca=>?_)
  ·have ca:again=true:=by simpa using ca
   subst ca
   have hj:=hj rfl
   refine zg<|zj<|ah<|ab Z<|z6<|ah<|bb Z<|za (Gv.cutLoM (j:=1) wx wz Z Z Z (by omega))<|ap wx Z<|aa Z<|z6<|zj<|y8 (γ:=Nat × Bool × List Int) [0,1,7,41,42] (fun g=>[(43,.int .i64 g.1),(10,.bool g.2.1)]) (fun g=>[(i7,.cells 167 [.own i18 n,.own i21 n]),(i21,.grow 1 3 (cI (dz n V))),(i18,.grow 1 3 (cI g.2.2))]) (fun g=>g.1≤(V.drop 1).length∧g.2.2=oe (dz n V) (2*V.length) (ba S n) V l g.1∧lm S (gi (dz n V)) V (gi g.2.2) j ((g.1+1:Nat):Int)∧(g.2.1=true→j<V.length)∧(g.2.1=false→g.2.2=l)) (fun g=>(V.drop 1).length - g.1) (0,false,l) eZ aE (⟨ql _,Z,hR,fun h=>(by cases h),fun _=>Z⟩) ?_
   rintro ⟨q,ag,l'⟩ ⟨hq,hl',hR',hag,hsame⟩
   try dsimp only at *
   have hl'n:l'.length=n:=by rw[hl',wY,hl]
   refine ah<|aw Z Z<|z6<|zd<|zw Z (fun cq=>?_) (fun cq=>?_)
   ·have hq2:q<(V.drop 1).length:=by simpa using cq
    obtain ⟨b,hb⟩:∃b,(V.drop 1)[q]=b:=⟨_,rfl⟩
    have hbV:V[q+1]?=some b:=by rw[←hb,List.getElem_drop,Nat.add_comm];exact qi (by simp at hq2;omega)
    obtain ⟨hs1,hs2,hs3,hbm,hb0⟩:=hk.step hl'n (Nat.succ_pos q) hbV hR'
    have hblt:=hk.lt b hbm
    have hbnn:=hk.ord.nn b hbm
    have hpr:∀p∈ba S n b,0≤p∧p<n:=fun p hp=>pR hG hp
    have hsucc:=ux (at_:=dz n V) (K:=2*V.length) (preds:=ba S n) (l:=l) hq2
    rw[hb,←hl'] at hsucc
    have hgl:∀x:Int,0≤x→x<n→l'[x.toNat]?=some (gi l' x):=fun x h1 h2=>fy h1 (by omega)
    have hrb:(b5 f n)[b.toNat]?=some (ba S n b):=by
     have:=hrow b.toNat (by omega)
     rwa [show ((b.toNat:Nat):Int)=b by omega] at this
    obtain ⟨ps,hps⟩:∃ps,ba S n b=ps:=⟨_,rfl⟩
    have hpsl:ps.length≤2*n:=by rw[←hps,←hS];exact gp f b n
    rw[hps] at hpr hrb
    refine zg<|zd<|zj<|ah<|za (bx q wx wz Z Z Z (by rw[qi hq2,hb])) ?_
    refine ay j6 Z<|ao Z<|z6<|ah<|ao Z<|z6<|zd<|ah<|bb Z<|aa Z<|za (bx b.toNat jf j5 Z Z (by omega) hrb)<|aH j9 Z<|ap wx Z<|aa Z<|z6<|zj<|y8 (γ:=Nat × Int) [0,1,7,10,12,41,42,43,50,51] (fun g=>[(52,.int .i64 g.1),(13,.int .i64 g.2)]) (fun g=>[(i7,.cells 167 [.own i18 n,.own i21 n]),(i21,.grow 1 3 (cI (dz n V))),(i18,.grow 1 3 (cI l'))]) (fun g=>g.1≤ps.length∧fu (gi l') (gi (dz n V)) (2*V.length) (ps.drop g.1) g.2=fu (gi l') (gi (dz n V)) (2*V.length) ps (-1)∧(g.2=-1∨gi l' g.2≠-1)) (fun g=>ps.length - g.1) (0,-1) eZ aE (⟨ql _,Z,.inl Z⟩) ?_
    rintro ⟨m,best⟩ ⟨hm,hbst,hbn⟩
    try dsimp only at *
    refine ah<|aw Z Z<|z6<|zd<|zw Z (fun cm=>?_) (fun cm=>?_)
    ·have hm2:m<ps.length:=by simp at cm;omega
     obtain ⟨p,hp⟩:∃p,ps[m]=p:=⟨_,rfl⟩
     obtain ⟨hp0,hpn⟩:=hpr p (hp▸qm hm2)
     have hbst:fu (gi l') (gi (dz n V)) (2*V.length) (ps.drop (m+1)) (if gi (dz n V) p=-1∨gi l' p=-1 then best else if best=-1 then p else dw (gi l') (gi (dz n V)) (2*V.length) best p)=fu (gi l') (gi (dz n V)) (2*V.length) ps (-1):=by
      rw[←hbst,List.drop_eq_getElem_cons hm2,uy,hp]
     refine zg<|zd<|zj<|ah<|za (bx m wx wz Z Z Z (by rw[qi hm2,hp])) ?_
     refine ay j6 Z<|ao Z<|z6<|zj<|ah<|za (zn Zh Z j5 (by decide) Z Z)<|za (zq (c:=.own _ _) j9 Z ⟨_,.head⟩ Z)<|aa Z<|za (yu (j:=p.toNat) wx wz Z Z (by omega) ⟨_,.t1⟩ (by first|rfl|(simp[aQ,aS];done)|(simp[aQ,aS];omega)) (by omega))<|za (q9 (j:=p.toNat) j6 Z ⟨_,.t1⟩ (hatg p hp0 hpn))<|ak Z Z<|ai Z<|zp (s:=67) Z (fun c1=>?_) (fun c1=>?_)
     ·have d1:gi (dz n V) p=-1:=by simpa using c1
      rw[if_pos (.inl d1)] at hbst
      refine z7 Z Z c1<|z7 Z Z c1<|z7 Z Z c1<|z7 Z Z c1<|z7 Z Z c1<|z7 Z Z c1<|ar Z c1 Z<|ab Z<|z6<|yl Z Z<|zg<|aV<|aC Z Z<|aa Z<|z6 ?_
      exact ⟨(m+1,best),o5,eZ,aE,⟨hm2,hbst,hbn⟩,by dsimp only;omega⟩
     ·have d1:¬gi (dz n V) p=-1:=by simpa using c1
      refine z8 Z Z c1<|za (zn Zh Z j5 (by decide) Z Z)<|z8 Z Z c1<|za (zq (c:=.own _ _) j9 Z ⟨_,.head⟩ Z)<|z8 Z Z c1<|aa Z<|z8 Z Z c1<|za (yu (j:=p.toNat) wx wz Z Z (by omega) ⟨_,.t2⟩ (by first|rfl|(simp[aQ,aS];done)|(simp[aQ,aS];omega)) (by omega))<|z8 Z Z c1<|za (q9 (j:=p.toNat) j6 Z ⟨_,.t2⟩ (hgl p hp0 hpn))<|z8 Z Z c1<|ak Z Z<|au Z c1 Z<|ab Z<|z6<|zu Z (fun c2=>?_) (fun c2=>?_)
      ·have d2:gi l' p=-1:=by simpa using c2
       rw[if_pos (.inr d2)] at hbst
       refine zg<|aV<|aC Z Z<|aa Z<|z6 ?_
       exact ⟨(m+1,best),o5,eZ,aE,⟨hm2,hbst,hbn⟩,by dsimp only;omega⟩
      ·have d2:¬gi l' p=-1:=by simpa using c2
       rw[if_neg (by rintro (h|h);exact d1 h;exact d2 h)] at hbst
       refine ah<|aa Z<|ak Z Z<|ab Z<|z6<|zu Z (fun c3=>?_) (fun c3=>?_)
       ·have c3:best=-1:=by simpa using c3
        rw[if_pos c3] at hbst
        refine aV<|aa Z<|ao Z<|z6<|aV<|aC Z Z<|aa Z<|z6 ?_
        exact ⟨(m+1,p),o5,eZ,aE,⟨hm2,hbst,.inr d2⟩,by dsimp only;omega⟩
       ·have c3:¬best=-1:=by simpa using c3
        rw[if_neg c3] at hbst
        have hbb:gi l' best≠-1:=by rcases hbn with h|h;exact absurd h c3;exact h
        refine aV<|za (Gv.loadWC isAgg167 sizeOf167 Z ⟨_,.head⟩ Z)<|aa Z<|aa Z<|zr Z (zm (.r (.l (.l (.rest _))))) (wZ hk.ord hR'.inv hK (by omega) hl'n hatl hk.lt hbb d2) ?_
        rintro r59 O59 ⟨rfl,rfl⟩
        refine ao Z<|z6<|zy (zb (zc .t2))<|aV<|aC Z Z<|aa Z<|z6 ?_
        exact ⟨(m+1,dw (gi l') (gi (dz n V)) (2*V.length) best p),o5,eZ,aE,⟨hm2,hbst,.inr (ll hk.ord hR'.inv _ best p hbb d2 (hK best p (hR'.inv.mem _ hbb) (hR'.inv.mem _ d2))).1⟩,by dsimp only;omega⟩
    ·have hmn:m=ps.length:=by simp at cm;omega
     subst hmn
     rw[List.drop_length] at hbst
     have hbst:best=fu (gi l') (gi (dz n V)) (2*V.length) ps (-1):=hbst
     have hst:gW (dz n V) (2*V.length) (ba S n) l' b=l'.set b.toNat best:=by unfold gW;rw[hps,←hbst]
     rw[hst] at hs1 hs2 hsucc
     refine y7<|ah<|za (zn Zh Z j5 (by decide) Z Z)<|za (zq (c:=.own _ _) j9 Z ⟨_,.head⟩ Z)<|aa Z<|za (yu (j:=b.toNat) wx wz Z Z (by omega) ⟨_,.t2⟩ (by first|rfl|(simp[aQ,aS];done)|(simp[aQ,aS];omega)) (by omega))<|za (q9 (j:=b.toNat) j6 Z ⟨_,.t2⟩ (hgl b hbnn hblt))<|aa Z<|aL Z Z<|z6<|zu Z (fun ce=>?_) (fun ce=>?_)
     ·have ce:¬gi l' b=best:=by simpa using ce
      have hjl:j<V.length:=Classical.byContradiction fun h=>ce (by
       have h2:=hs2 (by omega)
       have h3:=qM (l:=l') hbnn (by omega) best
       rw[h2] at h3
       have h4:=congrFun h3 b
       simpa [gM] using h4)
      refine aV<|za (zn Zh Z j5 (by decide) Z Z)<|za (zq (c:=.own _ _) j9 Z ⟨_,.head⟩ Z)<|aa Z<|aa Z<|za (yu (j:=b.toNat) wx wz Z Z (by omega) ⟨_,.t2⟩ (by first|rfl|(simp[aQ,aS];done)|(simp[aQ,aS];omega)) (by omega))<|ax.storeI (j:=b.toNat) wz Z Z .t2 (by first|omega|(simp;omega))<|ab Z<|z6<|aV<|aC Z Z<|aa Z<|z6 ?_
      exact ⟨(q+1,true,l'.set b.toNat best),wi,eZ,aE,⟨hq2,hsucc.symm,hs1,fun _=>hjl,fun h=>by cases h⟩,by dsimp only;omega⟩
     ·have ce:gi l' b=best:=by simpa using ce
      rw[←ce,sf hbnn] at hs1 hsucc
      refine zg<|aV<|aC Z Z<|aa Z<|z6 ?_
      exact ⟨(q+1,ag,l'),wi,eZ,aE,⟨hq2,hsucc.symm,hs1,hag,hsame⟩,by dsimp only;omega⟩
   ·have hqn:q=(V.drop 1).length:=by have h0:¬(q:Int)<((V.drop 1).length:Int):=(by simpa using cq);omega
    subst hqn
    rw[wW] at hl'
    have hR2:lm S (gi (dz n V)) V (gi l') (j+1) 1:=by rw[hl'];exact hk.pass hl hR
    refine y7 ?_
    exact ⟨(j+1,ag,l'),dy,aJ,aE,⟨hR2,hl'n,fun h=>by have:=hag h;omega,fun h=>by have e:=hsame h;rw[e] at hl';have:=hk.near_eq hl (hk.fixed hl hR hl'.symm);rw[e,this,hNG]⟩,by dsimp only;rw[if_pos rfl];split<;>omega⟩
  ·have ca:again=false:=by simpa using ca
   have hfin:=hfin ca
   subst hfin
   refine y7<|ah<|za (zn Zh Z j5 (by decide) Z Z)<|za (zq (c:=.own _ _) j9 Z ⟨_,.head⟩ Z)<|za (yu (j:=0) wx wz Z Z Z ⟨_,.t2⟩ (by rw[aQ,kb]) (by omega))<|ax.storeI (j:=0) wz Z Z .t2 (by rw[kb];omega)<|z6<|ah<|za (zn Zh Z j5 (by decide) Z Z)<|za (zq (c:=.own _ _) j9 Z ⟨_,.head⟩ Z)<|za (lj Z)<|z6<|zy (aX.drop .head)<|zy (aX.drop .head)<|zh<|zk (x:=.own _ _) Z ?_
   exact ⟨i18,rfl,rfl⟩
end Go.Proofs.YtdilpodccjlkgaaGreatDoor
namespace Go.Proofs.YtdilpodccjlkgaaGreatDoor
open Go.Proofs.Tryz
open Go.Proofs
variable {E:World}
set_option maxRecDepth 20000
theorem sQ (xs:List Int) (v:Int) (i:Nat) (T:TypeId) (hl:xs.length≤281474976710656):aU prog E 136 [.own i xs.length,.int .i64 v] [(i,.grow 1 T (cI xs))] fun r O=>r=.int .i64 (bT (fun x=>decide (v=x)) xs 0)∧O=[(i,.grow 1 T (cI xs))]:=by
 refine zo func136 Z (by decide) Z<|ah<|ao Z<|z6<|zd<|ah<|za (gQ Z)<|za (Gv.lenO wx Z)<|aa Z<|z6<|zj<|y8 (γ:=Nat) [0,1,7] (fun k=>[(8,.int .i64 k)]) (fun k=>[(i,.grow 1 T (cI xs))]) (fun k=>k≤xs.length∧(xs.take k).all (fun x=>!decide (v=x))) (fun k=>xs.length - k) 0 aJ aE (⟨ql _,Z⟩) ?_
 rintro k ⟨hk,hall⟩
 refine ah<|aw Z Z<|z6<|zd<|zw Z (fun ck=>?_) (fun ck=>?_)
 ·have hk2:k<xs.length:=by simp at ck;omega
  refine zg<|zd<|zj<|ah<|aa Z<|ao Z<|z6<|ah<|aa Z<|za (gQ Z)<|aa Z<|za (yu (j:=k) wx wz Z Z Z ⟨_,.head⟩ (by first|rfl|(simp[aQ,aS];done)|(simp[aQ,aS];omega)) hk2)<|za (q9 (j:=k) j6 Z ⟨_,.head⟩ (qi hk2))<|ak Z Z<|z6<|zu Z (fun cp=>?_) (fun cp=>?_)
  ·refine ah<|aa Z<|ao Z<|z6<|zh<|zk (x:=.int _ _) Z ?_
   exact ⟨by rw[bq _ xs k hk hall,List.drop_eq_getElem_cons hk2,bT,if_pos (by simpa using cp)],rfl⟩
  ·refine zg<|aV<|aC Z Z<|aa Z<|z6 ?_
   exact ⟨k+1,dy,aJ,aE,⟨hk2,by rw[qj hk2,List.all_append,hall];simpa using cp⟩,by omega⟩
 ·have hkn:k=xs.length:=by simp at ck;omega
  refine y7<|ah<|ao Z<|z6<|zh<|zk (x:=.int _ _) Z ?_
  exact ⟨by rw[bq _ xs k hk hall,hkn,List.drop_length,bT],rfl⟩
theorem og (xs:List Int) (v:Int) (i:Nat) (T:TypeId) (hl:xs.length≤281474976710656):aU prog E 101 [.own i xs.length,.int .i64 v] [(i,.grow 1 T (cI xs))] fun r O=>r=.bool (xs.contains v)∧O=[(i,.grow 1 T (cI xs))]:=by
 refine zo func101 Z (by decide) Z<|ah<|ab Z<|z6<|ah<|za (gQ Z)<|aa Z<|zr Z (zm (.l (.rest _))) (sQ xs v i T hl) ?_
 rintro r7 O7 ⟨rfl,rfl⟩
 refine za (q3 Z Z)<|ab Z<|z6<|zh<|zk (x:=.bool _) Z ?_
 exact ⟨by rw[ej];congr 1;rw[qr];simp,rfl⟩
theorem oh (xs:List Int) (v:Int) (i:Nat) (T:TypeId) (hl:xs.length≤281474976710656):aU prog E 101 [.own i xs.length,.int .i64 v] [(i,.grow eI.k T (eI.av xs))] fun r O=>r=.bool (xs.contains v)∧O=[(i,.grow eI.k T (eI.av xs))]:=by rw[xR];exact og xs v i T hl
theorem w2 (l:List Int) (i:Nat) (T:TypeId) (hl:l.length≤200000):aU prog E 102 [.own i l.length] [(i,.grow eI.k T (eI.av l))] fun r O=>r=.tup []∧O=[(i,.grow eI.k T (eI.av (iN l)))]:=by rw[xR,xR];exact sr l i T hl
def rJ (n:Nat) (rows:List (List Int)):Prop:=rows.length=n∧∀r∈rows,r.Nodup∧∀x∈r,0≤x∧x<n
theorem rJ.len {n:Nat} {rows:List (List Int)} (h:rJ n rows) {r:List Int} (hr:r∈rows):r.length≤n:=by
 have:=kc r (bh n) (h.2 r hr).1 fun x hx=>cJ.2 ((h.2 r hr).2 x hx)
 rwa [bI] at this
theorem rJ.push {n:Nat} {rows:List (List Int)} (h:rJ n rows) {j:Nat} (hj:j<rows.length) {b:Int} (h0:0≤b) (hb:b<n) (hn:b ∉ rows[j]):rJ n (rows.set j (rows[j]++[b])):=by
 refine ⟨by rw[List.length_set];exact h.1,fun r hr=>?_⟩
 rcases List.mem_or_eq_of_mem_set hr with hr|rfl
 ·exact h.2 r hr
 ·obtain ⟨g1,g2⟩:=h.2 _ (qm hj)
  refine ⟨List.nodup_append.2 ⟨g1,by simp,fun x hx y hy e=>?_⟩,fun x hx=>?_⟩
  ·simp at hy;subst hy;subst e;exact hn hx
  ·rcases List.mem_append.1 hx with hx|hx
   ·exact g2 x hx
   ·simp at hx;subst hx;exact ⟨h0,hb⟩
theorem rJ.sort {n:Nat} {rows:List (List Int)} (h:rJ n rows) {j:Nat} (hj:j<rows.length):rJ n (rows.set j (iN rows[j])):=by
 refine ⟨by rw[List.length_set];exact h.1,fun r hr=>?_⟩
 rcases List.mem_or_eq_of_mem_set hr with hr|rfl
 ·exact h.2 r hr
 ·obtain ⟨g1,g2⟩:=h.2 _ (qm hj)
  exact ⟨(ec _).nodup_iff.2 g1,fun x hx=>g2 x ((ec _).mem_iff.1 hx)⟩
theorem rJ.begin (n:Nat):rJ n (List.replicate n []):=⟨by simp,fun r hr=>by rw[List.eq_of_mem_replicate hr];exact ⟨by simp,fun x hx=>by cases hx⟩⟩
section
variable {S:Int→List Int} {n:Nat} (hG:fi S n)
include hG
theorem sR {c p:Int} (hc:c∈aA S n) (hp:p∈aA S n) (he:c∈S p):c=0∨fU (gi (bl S n)) p (gi (bl S n) c):=by
 by_cases h0:c=0
 ·exact .inl h0
 ·right
  have hX:=hG.exact
  have hO:=hG.gok.ord
  have hb:=hX.has c hc
  obtain ⟨g1,g2,g3⟩:=hX.inv.near c h0 hb
  have hd:gV S (gi (bl S n) c) c:=(hX.anc c _ hc).1 (.up h0 hb (.refl _))
  exact (hX.anc p _ hp).2 (hd.pred ((hO.mem p).1 hp) he (fun e=>by rw[e] at g3;omega))
theorem uz {c y:Int} (hc:c∈aA S n) (hy:(y∈aA S n∧(c=0∨fU (gi (bl S n)) y (gi (bl S n) c)))∨(c=0∧y=-1)) (hne:y≠gi (bd S n) c) :
  y∈aA S n∧((gi (bd S n) y∈aA S n∧(c=0∨fU (gi (bl S n)) (gi (bd S n) y) (gi (bl S n) c)))∨(c=0∧gi (bd S n) y=-1))∧0<(gi (bC S n) y+1).toNat∧(gi (bC S n) (gi (bd S n) y)+1).toNat<(gi (bC S n) y+1).toNat:=by
 have hO:=hG.gok.ord
 have hpos:=hG.npos
 have hyV:y∈aA S n:=by
  rcases hy with h|⟨h1,h2⟩
  ·exact h.1
  ·exact absurd (by rw[h2,h1,na hpos]) hne
 have hl:=hG.lev_nn hyV
 have hy0:=hO.nn y hyV
 refine ⟨hyV,?_⟩
 by_cases h0:y=0
 ·subst h0
  rw[na hpos]
  have hc0:c=0:=by
   rcases hy with ⟨_,h|h⟩|h
   ·exact h
   ·rcases h.cases' with e|⟨e,_⟩
    ·by_cases hc0:c=0
     ·exact hc0
     ·have:=hO.nn c hc
      exact absurd (by rw[dS this hc0,←e]) hne
    ·exact absurd rfl e
   ·exact h.1
  have hm:gi (bC S n) (-1)=-1:=ud (.inl (by omega))
  exact ⟨.inr ⟨hc0,rfl⟩,by omega,by rw[hm];omega⟩
 ·rw[dS hy0 h0]
  obtain ⟨g1,g2⟩:=hG.near_mem hyV h0
  have g3:=hG.lev_near hyV h0
  have g4:=hG.lev_nn g1
  refine ⟨.inl ⟨g1,?_⟩,by omega,by omega⟩
  rcases hy with ⟨_,h|h⟩|h
  ·exact .inl h
  ·rcases h.cases' with e|⟨_,_,h3⟩
   ·by_cases hc0:c=0
    ·exact .inl hc0
    ·have:=hO.nn c hc
     exact absurd (by rw[dS this hc0,e]) hne
   ·exact .inr h3
  ·exact .inl h.1
end
theorem sS (f:ad) (hE:bE f) (hn:f.blocks.length≤1000) (t a b fb:Nat) (T:TypeId) (x:AV) (rows:List (List Int)) (hF:rJ f.blocks.length rows) :
  aU prog E 61 [.po t 0,.fro 1 ((aA (ae f) f.blocks.length).map cE),kx eI (b5 f f.blocks.length)]
   [(0,cP eI 23 3 fb rows),(t,.cells 130 [.own a f.blocks.length,.own b f.blocks.length,x,dM fb f.blocks.length]),(b,.grow 1 3 (cI (bC (ae f) f.blocks.length))),(a,.grow 1 3 (cI (bd (ae f) f.blocks.length)))]
   fun r O=>r=.tup []∧∃rows',rJ f.blocks.length rows'∧O=[(0,cP eI 23 3 fb rows'),(t,.cells 130 [.own a f.blocks.length,.own b f.blocks.length,x,dM fb f.blocks.length]),(b,.grow 1 3 (cI (bC (ae f) f.blocks.length))),(a,.grow 1 3 (cI (bd (ae f) f.blocks.length)))]:=by
 have hG:=hE.grph
 have hpos:=hG.npos
 have hol:=eT hG
 have hrowP:∀k,k<f.blocks.length→(b5 f f.blocks.length)[k]?=some (ba (ae f) f.blocks.length (k:Int)):=fun k h=>iB f h
 have hpl:∀b,(ba (ae f) f.blocks.length b).length≤2*f.blocks.length:=fun b=>gp f b _
 obtain ⟨n,hnn⟩:∃n,f.blocks.length=n:=⟨_,rfl⟩
 obtain ⟨S,hS⟩:∃S,ae f=S:=⟨_,rfl⟩
 rw[hnn] at hG hpos hol hn hrowP hpl hF ⊢
 rw[hS] at hG hol hrowP hpl ⊢
 obtain ⟨V,hVe⟩:∃V,aA S n=V:=⟨_,rfl⟩
 have hVr:∀y∈V,0≤y∧y<n:=fun y hy=>cU hG.toEOk (hVe▸hy)
 have hX:=hG.exact
 have hO:=hG.gok.ord
 have hlev:=hG.lev
 rw[hVe] at hX hO hol ⊢
 have hLl:(bC S n).length=n:=hlev.len
 have hRl:(bd S n).length=n:=eU S n
 have hLg:∀y:Int,0≤y→y<n→(bC S n)[y.toNat]?=some (gi (bC S n) y):=fun y h1 h2=>fy h1 (by omega)
 have hNg:∀y:Int,0≤y→y<n→(bd S n)[y.toNat]?=some (gi (bd S n) y):=fun y h1 h2=>fy h1 (by rw[eU];omega)
 refine zo func61 Z (by decide) Z<|zd<|ah<|bb Z<|ap wx Z<|aa Z<|z6<|zj<|y8 (γ:=Nat × List (List Int)) [0,2,12,13] (fun g=>[(14,.int .i64 g.1)]) (fun g=>[(0,cP eI 23 3 fb g.2),(t,.cells 130 [.own a n,.own b n,x,dM fb n]),(b,.grow 1 3 (cI (bC S n))),(a,.grow 1 3 (cI (bd S n)))]) (fun g=>g.1≤V.length∧rJ n g.2) (fun g=>V.length - g.1) (0,rows) aJ aE (⟨ql _,hF⟩) ?_
 rintro ⟨k,rows⟩ ⟨hk,hF⟩
 try dsimp only at *
 refine ah<|aw Z Z<|z6<|zd<|zw Z (fun ck=>?_) (fun ck=>?_)
 ·have hk2:k<V.length:=by simp at ck;omega
  obtain ⟨c,hc⟩:∃c,V[k]=c:=⟨_,rfl⟩
  have hcV:c∈V:=hc▸qm hk2
  obtain ⟨hc0,hcn⟩:=hVr c hcV
  have hrow:(b5 f n)[c.toNat]?=some (ba S n c):=by
   have:=hrowP c.toNat (by omega)
   rwa [show ((c.toNat:Nat):Int)=c by omega] at this
  have hpc:=hpl c
  have hpr:∀p∈ba S n c,0≤p∧p<n:=fun p hp=>pR hG hp
  have hpS:∀p∈ba S n c,c∈S p:=fun p hp=>(hG.gok.preds c (by rw[hVe];exact hcV) p).1 hp
  obtain ⟨ps,hps⟩:∃ps,ba S n c=ps:=⟨_,rfl⟩
  rw[hps] at hrow hpc hpr hpS
  refine zg<|zd<|zj<|ah<|za (bx k wx wz Z Z Z (by rw[qi hk2,hc])) ?_
  refine ay j6 Z<|ao Z<|z6<|ah<|bb Z<|aa Z<|za (bx c.toNat jf j5 Z Z (by omega) hrow)<|aH j9 Z<|ap wx Z<|aa Z<|z6<|zj<|y8 (γ:=Nat × List (List Int)) [0,2,7,12,13,14,21,22] (fun g=>[(23,.int .i64 g.1)]) (fun g=>[(0,cP eI 23 3 fb g.2),(t,.cells 130 [.own a n,.own b n,x,dM fb n]),(b,.grow 1 3 (cI (bC S n))),(a,.grow 1 3 (cI (bd S n)))]) (fun g=>g.1≤ps.length∧rJ n g.2) (fun g=>ps.length - g.1) (0,rows) aJ aE (⟨ql _,hF⟩) ?_
  rintro ⟨j,rows⟩ ⟨hj,hF⟩
  try dsimp only at *
  refine ah<|aw Z Z<|z6<|zd<|zw Z (fun cj=>?_) (fun cj=>?_)
  ·have hj2:j<ps.length:=by simp at cj;omega
   obtain ⟨p,hp⟩:∃p,ps[j]=p:=⟨_,rfl⟩
   obtain ⟨hp0,hpn⟩:=hpr p (hp▸qm hj2)
   have hpc2:=hpS p (hp▸qm hj2)
   refine zg<|zd<|zj<|ah<|za (bx j wx wz Z Z Z (by rw[qi hj2,hp])) ?_
   refine ay j6 Z<|ao Z<|z6<|zd<|ah<|aR Z<|az Z<|za (zn Z4 Z j5 (by decide) Z Z)<|za (zq (c:=.own _ _) j9 Z ⟨_,.t1⟩ Z)<|aa Z<|za (yu (j:=p.toNat) wx wz Z Z (by omega) ⟨_,.t2⟩ (by first|rfl|(simp[aQ,aS];done)|(simp[aQ,aS];omega)) (by omega))<|za (q9 (j:=p.toNat) j6 Z ⟨_,.t2⟩ (hLg p hp0 hpn))<|ak Z Z<|z6<|zu Z (fun cl=>?_) (fun cl=>?_)
   ·refine y7<|aV<|aC Z Z<|aa Z<|z6 ?_
    exact ⟨(j+1,rows),vh,aJ,aE,⟨hj2,hF⟩,by dsimp only;omega⟩
   ·have hpV:p∈V:=by have h0:¬gi (bC S n) p=-1:=(by simpa using cl);rw[←hVe];exact (hG.lev_mem p).1 h0
    refine zg<|ah<|aa Z<|ao Z<|z6<|zj<|y8 (γ:=Int × List (List Int)) [0,2,7,12,13,14,21,22,23] (fun g=>[(10,.int .i64 g.1)]) (fun g=>[(0,cP eI 23 3 fb g.2),(t,.cells 130 [.own a n,.own b n,x,dM fb n]),(b,.grow 1 3 (cI (bC S n))),(a,.grow 1 3 (cI (bd S n)))]) (fun g=>((g.1∈V∧(c=0∨fU (gi (bl S n)) g.1 (gi (bl S n) c)))∨(c=0∧g.1=-1))∧rJ n g.2) (fun g=>(gi (bC S n) g.1+1).toNat) (p,rows) aJ aE (⟨.inl ⟨hpV,sR hG (by rw[hVe];exact hcV) (by rw[hVe];exact hpV) hpc2⟩,hF⟩) ?_
    rintro ⟨y,rows⟩ ⟨hy,hF⟩
    try dsimp only at *
    refine zd<|ah<|aa Z<|aR Z<|az Z<|za (zn Z4 Z j5 (by decide) Z Z)<|za (zq (c:=.own _ _) j9 Z ⟨_,.t1⟩ Z)<|aa Z<|za (yu (j:=c.toNat) wx wz Z Z (by omega) ⟨_,.t3⟩ (by first|rfl|(simp[aQ,aS];done)|(simp[aQ,aS];omega)) (by omega))<|za (q9 (j:=c.toNat) j6 Z ⟨_,.t3⟩ (hNg c hc0 hcn))<|aL Z Z<|z6<|zu Z (fun cy=>?_) (fun cy=>?_)
    ·have hne:y≠gi (bd S n) c:=by simpa using cy
     obtain ⟨hyV,hnx,hms⟩:=uz hG (hVe▸hcV) (by rw[hVe];exact hy) hne
     rw[hVe] at hyV hnx
     obtain ⟨hy0,hyn⟩:=hVr y hyV
     have hyl:y.toNat<rows.length:=by rw[hF.1];omega
     have hrl:=hF.len (qm hyl)
     refine zg<|zd<|zj<|ah<|aR Z<|az Z<|za (zn Z4 Z Yv (by decide) Z Z)<|za (zq (c:=dM _ _) isAgg70 Z ⟨_,.t1⟩ Z)<|aa Z<|za (qf (j:=y.toNat) jf j5 Z Z (by omega) (by omega))<|q6 (j:=y.toNat) (r:=rows[y.toNat]) j9 Z (qi hyl) (fun _=>.head)<|fun i58=>aa Z<|zr Z (zm (.l (.r (.r (.r (.r (.rest _))))))) (oh rows[y.toNat] c i58 _ (by omega)) ?_
     rintro r60 O60 ⟨rfl,rfl⟩
     refine aD Z<|ze (aX.nestBack (r:=rows[y.toNat]) .head .head) ?_
     rw[List.set_getElem_self]
     refine z6<|zu Z (fun cin=>?_) (fun cin=>?_)
     ·have hnin:c ∉ rows[y.toNat]:=by simpa using cin
      refine yg (γ:=Unit) [0,2,7,10,12,13,14,21,22,23] (fun u=>[]) (fun u=>[(t,.cells 130 [.own a n,.own b n,x,dM fb n]),(b,.grow 1 3 (cI (bC S n))),(a,.grow 1 3 (cI (bd S n))),(0,cP eI 23 3 fb (rows.set y.toNat (rows[y.toNat]++[c])))]) (fun u=>True) ?_ (fun _ _ h=>h) ?_
      ·refine zt (fun j=>Nat.beq j 16) (by kernel_rfl) Z (zm (.l (.r (.r (.r (.rest _))))))<|aj 0 Z (eF Z)<|aj 1 Z (yb Z)<|aj 2 Z (zn Z4 Z Yv (by decide) Z Z)<|aj 3 Z (zq (c:=dM _ _) isAgg70 Z ⟨_,.head⟩ Z)<|aj 4 Z (dF Z)<|aj 5 Z (eF Z)<|aj 6 Z (yb Z)<|aj 7 Z (zn Z4 Z Yv (by decide) Z Z)<|aj 8 Z (zq (c:=dM _ _) isAgg70 Z ⟨_,.head⟩ Z)<|aj 9 Z (dF Z)<|aj 10 Z (qf (j:=y.toNat) jf j5 Z Z (by omega) (by omega))<|aj 12 Z (dF Z)<|yn (i:=11) (j:=13) Z Z (by kernel_rfl) ?_ ?_
       ·refine q6 (j:=y.toNat) (r:=rows[y.toNat]) j9 Z (qi hyl) (fun _=>.head)<|fun i73=>z6<|aY 13 Z<|y3 (rows:=[[_]]) cf Z Z Z Z Z<|z6<|aY 14 Z<|yj (k:=1) wx type3 Z Z Z Z Z (fun _=>.head) (by rw[eI.av_len];rfl) (by decide) Z (by show (_+1)*8≤_;omega) (by show _+1≤_;omega)<|fun i76=>z6<|aj 15 Z (qf (j:=y.toNat) jf j5 Z Z (by omega) (by omega))<|ym<|yk (i:=16) Z (by kernel_rfl) (by kernel_rfl)<|qg (j:=y.toNat) (r:=rows[y.toNat]++[c]) j5 Z Z (by omega) .t3 .t3 Z (eI.av_push _ _) (by simp)<|z6<|yq (by kernel_rfl) ?_
        exact ⟨(),o5,trivial,aE,trivial⟩
       ·refine y3 (rows:=[[_]]) cf Z Z Z Z Z<|z6<|aY 11 Z<|q6 (j:=y.toNat) (r:=rows[y.toNat]) j9 Z (qi hyl) (fun _=>.head)<|fun i73=>z6<|aY 14 Z<|yj (k:=1) wx type3 Z Z Z Z Z (fun _=>.head) (by rw[eI.av_len];rfl) (by decide) Z (by show (_+1)*8≤_;omega) (by show _+1≤_;omega)<|fun i76=>z6<|aj 15 Z (qf (j:=y.toNat) jf j5 Z Z (by omega) (by omega))<|ym<|yk (i:=16) Z (by kernel_rfl) (by kernel_rfl)<|qg (j:=y.toNat) (r:=rows[y.toNat]++[c]) j5 Z Z (by omega) .t3 .t3 Z (eI.av_push _ _) (by simp)<|z6<|yq (by kernel_rfl) ?_
        exact ⟨(),o5,trivial,aE,trivial⟩
      ·rintro _ _
       refine zy (zb (zc .t3))<|aV<|aR Z<|az Z<|za (zn Z4 Z j5 (by decide) Z Z)<|za (zq (c:=.own _ _) j9 Z ⟨_,.t1⟩ Z)<|aa Z<|za (yu (j:=y.toNat) wx wz Z Z (by omega) ⟨_,.t3⟩ (by first|rfl|(simp[aQ,aS];done)|(simp[aQ,aS];omega)) (by omega))<|za (q9 (j:=y.toNat) j6 Z ⟨_,.t3⟩ (hNg y hy0 hyn))<|ao Z<|z6 ?_
       exact ⟨(gi (bd S n) y,rows.set y.toNat (rows[y.toNat]++[c])),qE,aJ,aE,⟨hnx,hF.push hyl hc0 hcn hnin⟩,by dsimp only;omega⟩
     ·refine zg<|aV<|aR Z<|az Z<|za (zn Z4 Z j5 (by decide) Z Z)<|za (zq (c:=.own _ _) j9 Z ⟨_,.t1⟩ Z)<|aa Z<|za (yu (j:=y.toNat) wx wz Z Z (by omega) ⟨_,.t3⟩ (by first|rfl|(simp[aQ,aS];done)|(simp[aQ,aS];omega)) (by omega))<|za (q9 (j:=y.toNat) j6 Z ⟨_,.t3⟩ (hNg y hy0 hyn))<|ao Z<|z6 ?_
      exact ⟨(gi (bd S n) y,rows),qE,aJ,aE,⟨hnx,hF⟩,by dsimp only;omega⟩
    ·refine y7<|aV<|aC Z Z<|aa Z<|z6 ?_
     exact ⟨(j+1,rows),vh,aJ,aE,⟨hj2,hF⟩,by dsimp only;omega⟩
  ·refine y7<|aV<|aC Z Z<|aa Z<|z6 ?_
   exact ⟨(k+1,rows),iS,aJ,aE,⟨hk2,hF⟩,by dsimp only;omega⟩
 ·refine y7<|ah<|aR Z<|az Z<|za (zn Z4 Z Yv (by decide) Z Z)<|za (zq (c:=dM _ _) isAgg70 Z ⟨_,.t1⟩ Z)<|za (Gv.lenN jf Z)<|aa Z<|z6<|zj<|y8 (γ:=Nat × List (List Int)) [0,84] (fun g=>[(85,.int .i64 g.1)]) (fun g=>[(0,cP eI 23 3 fb g.2),(t,.cells 130 [.own a n,.own b n,x,dM fb n]),(b,.grow 1 3 (cI (bC S n))),(a,.grow 1 3 (cI (bd S n)))]) (fun g=>g.1≤n∧rJ n g.2) (fun g=>n - g.1) (0,rows) aJ aE (⟨ql _,hF⟩) ?_
  rintro ⟨m,rows⟩ ⟨hm,hF⟩
  try dsimp only at *
  refine ah<|aw Z Z<|z6<|zd<|zw Z (fun cm=>?_) (fun cm=>?_)
  ·have hm2:m<n:=by simp at cm;omega
   have hml:m<rows.length:=by rw[hF.1];omega
   have hrl:=hF.len (qm hml)
   refine zg<|zd<|zj<|ah<|aa Z<|ao Z<|z6<|aV<|aR Z<|az Z<|za (zn Z4 Z Yv (by decide) Z Z)<|za (zq (c:=dM _ _) isAgg70 Z ⟨_,.t1⟩ Z)<|aa Z<|za (qf (j:=m) jf j5 Z Z Z (by omega))<|q6 (j:=m) (r:=rows[m]) j9 Z (qi hml) (fun _=>.head)<|fun i94=>zr Z (zm (.l (.r (.r (.r (.r (.rest _))))))) (w2 rows[m] i94 _ (by omega)) ?_
   rintro r95 O95 ⟨rfl,rfl⟩
   refine z6<|zy (aX.nestBackN (r:=iN rows[m]) (ec _).length_eq .head .head)<|aV<|aC Z Z<|aa Z<|z6 ?_
   exact ⟨(m+1,rows.set m (iN rows[m])),eZ,aJ,aE,⟨hm2,hF.sort hml⟩,by dsimp only;omega⟩
  ·refine y7<|yp ?_
   exact ⟨rfl,rows,hF,rfl⟩
end Go.Proofs.YtdilpodccjlkgaaGreatDoor
