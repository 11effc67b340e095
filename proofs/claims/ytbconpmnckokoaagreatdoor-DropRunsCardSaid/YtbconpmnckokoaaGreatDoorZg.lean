/- The document's typed; the laws' typed, single and plain. Of programs that are little. -/
import Derived.Test.YtbconpmnckokoaaGreatDoorZf
import Derived.Test.YtbconpmnckokoaaGreatDoorZe
import Derived.LaidEqlPtr
set_option linter.unusedVariables false
set_option linter.unusedSimpArgs false
set_option linter.unusedSectionVars false
namespace Go.Proofs.YtbconpmnckokoaaGreatDoor
section
open Go.Proofs.Tryz
open Go.Proofs Go.Lib Go.Shelf Go.RowKit
variable {E:World}
set_option maxRecDepth 20000
def fS (f:ai) (b:aI):Bool:=b.phis.all (m8 f)&&b.insts.all (fK f)&&cM f b.term
def cK (f:ai):Bool:=dn f&&f.blocks.all (fS f)
theorem small.shaped {f:ai} (hf:small f) (hL:ae E):aV prog E 34 [.agg (bW f)] (.bool (dn f)):=
 ov f hf.ok (by have:=hf.1;omega) (by have:=hf.2.2.1;omega) (by have:=hf.2.1;omega) hf.names hL
theorem f9 {f:ai} {t:fH} (h:bh f t=true) (hk:¬t.kind=0):bn f t.var=true:=by
 unfold bh at h
 rw[if_neg hk] at h
 split at h
 ·simp only[qz] at h;exact h.1.1
 ·split at h
  ·simp only[qz] at h;exact h.1
  ·cases h
theorem lj (f:ai) (hf:small f) (hL:ae E):aV prog E 23 [.agg (bW f)] (.int .i64 (if cK f then 0 else 3)):=by
 have hok:=hf.ok
 refine zr func23 Z (by decide) Z<|ao<|yf (cs:=_) Z Z Z<|ax Z<|z6<|zb<|ao<|ac jq jl Z Z<|zh (hf.shaped hL) Z<|aE Z<|z6<|zw Z (fun cs=>?_) (fun cs=>?_)
 ·refine ao<|ax Z<|z6<|ze<|zi (x:=.int _ _) Z ?_
  unfold cK;rw[show dn f=false by simpa using cs];rfl
 ·have hsb:dn f=true:=by simpa using cs
  have hS:b5 f:=by rw[eD] at hsb;exact of_decide_eq_true hsb
  have hB:=hS.2.2.2.2.2
  have hfl:=hok.2.2.1.lt
  refine zg<|zb<|ao<|aw jj Z Z6 Z Z<|aT Zk Z<|aj jp Z<|aa Z<|z6<|zk<|yd (γ:=Nat) [1,13,14] (fun k=>[(15,.int .i64 k)]) (fun k=>[]) (fun k=>k≤f.blocks.length∧(f.blocks.take k).all (fS f)=true) (fun k=>f.blocks.length - k) 0 aY aS (⟨qr _,Z⟩) ?_
  rintro k ⟨hk,hall⟩
  refine ao<|ay Z Z<|z6<|zb<|zp Z (fun ck=>?_) (fun ck=>?_)
  ·have hk2:k<f.blocks.length:=by simp at ck;omega
   obtain ⟨b,hbk⟩:∃b,f.blocks[k]=b:=⟨_,rfl⟩
   have hget:f.blocks[k]?=some b:=by rw[qo hk2,hbk]
   have hmem:b∈f.blocks:=hbk▸qs hk2
   obtain ⟨hph,hin,htm⟩:=hB b hmem
   have hbad:fS f b=false→cK f=false:=fun h=>by unfold cK;rw[Bool.eq_false_iff.2 (ef hk2 (by rw[hbk];exact h))];simp
   have hs5:=hok.2.2.2 b hmem
   have hpl:=hs5.1.lt
   have hil:=hs5.2.1.lt
   refine zg<|zb<|zk<|ao<|z8 (dj k jp ju Z Z Z hget)<|ac Y0 ju Z Z<|zz (cs:=[.str ⟨#[]⟩,.raw (.slice none 0 0),.raw (.slice none 0 0),.int .i64 0,.int .i64 0,.int .i64 0,.int .i64 0]) Ze Z Z<|fun i4=>zx ju Z Z Z Z Z Z .head Z<|zt (yo (t:=4) Z .head)<|z6<|zb<|ao<|aw j9 Z Zq Z Z<|aT Y8 Z<|aj jy Z<|aa Z<|z6<|zk<|yd (γ:=Nat) [1,4,13,14,15,20,21] (fun p=>[(22,.int .i64 p)]) (fun p=>[]) (fun p=>p≤b.phis.length∧(b.phis.take p).all (m8 f)=true) (fun p=>b.phis.length - p) 0 aY aS (⟨qr _,Z⟩) ?_
   rintro p ⟨hp,hpall⟩
   refine ao<|ay Z Z<|z6<|zb<|zp Z (fun cp=>?_) (fun cp=>?_)
   ·have hp2:p<b.phis.length:=by simp at cp;omega
    have hpm:=qs hp2
    have hP:=hph _ hpm
    refine zg<|zb<|zk<|ao<|z8 (dj p jy Za Z Z Z (qo hp2))<|ac isAgg77 Za Z Z<|zz (cs:=[.int .i64 0,.raw (.slice none 0 0),.raw (.slice none 0 0)]) Zy Z Z<|fun i6=>zx Za Z Z Z Z Z Z .head Z<|zt (yo (t:=6) Z .head)<|z6<|ao<|ac jq jl Z Z<|ac isAgg77 Za Z Z<|zh (vb f b.phis[p] (hs5.2.2.1 _ hpm) hP.2.2.2.1 hP.1) Z<|aE Z<|z6<|zw Z (fun cq=>?_) (fun cq=>?_)
    ·refine ao<|ax Z<|z6<|ze<|zi (x:=.int _ _) Z ?_
     rw[hbad (by unfold fS;rw[Bool.eq_false_iff.2 (ef hp2 (by simpa using cq))];rfl)];rfl
    ·refine zg<|bj<|aF Z Z<|aa Z<|z6 ?_
     exact ⟨p+1,jI,aY,aS,⟨hp2,cA hp2 hpall (by simpa using cq)⟩,by omega⟩
   ·have hpn:p=b.phis.length:=by simp at cp;omega
    subst hpn
    rw[qt] at hpall
    refine yc<|zb<|ao<|aw j9 Z jw Z Z<|aT Zb Z<|aj jm Z<|aa Z<|z6<|zk<|yd (γ:=Nat) [1,4,13,14,15,32,33] (fun q=>[(34,.int .i64 q)]) (fun q=>[]) (fun q=>q≤b.insts.length∧(b.insts.take q).all (fK f)=true) (fun q=>b.insts.length - q) 0 aY aS (⟨qr _,Z⟩) ?_
    rintro q ⟨hq,hqall⟩
    refine ao<|ay Z Z<|z6<|zb<|zp Z (fun cp2=>?_) (fun cp2=>?_)
    ·have hq2:q<b.insts.length:=by simp at cp2;omega
     have hqm:=qs hq2
     have hI:=m3 (hin _ hqm)
     have hId:cQ b.insts[q].op=true→bn f b.insts[q].dst=true:=fun h=>by
      rcases hI.dst with ⟨d1,_⟩|⟨_,_,d3⟩
      ·rw[h] at d1;cases d1
      ·exact d3
     refine zg<|zb<|zk<|ao<|z8 (dj q jm jv Z Z Z (qo hq2))<|ac Zr jv Z Z<|zz (cs:=[.int .i64 0,.int .i64 0,.raw (.slice none 0 0),.int .i64 0]) Zs Z Z<|fun i8=>zx jv Z Z Z Z Z Z .head Z<|zt (yo (t:=8) Z .head)<|z6<|ao<|ac jq jl Z Z<|ac Zr jv Z Z<|zh (pk f b.insts[q] (List.all_eq_true.2 hI.args) hI.len hId) Z<|aE Z<|z6<|zw Z (fun cq=>?_) (fun cq=>?_)
     ·refine ao<|ax Z<|z6<|ze<|zi (x:=.int _ _) Z ?_
      rw[hbad (by unfold fS;rw[hpall,Bool.eq_false_iff.2 (ef hq2 (by simpa using cq))];rfl)];rfl
     ·refine zg<|bj<|aF Z Z<|aa Z<|z6 ?_
      exact ⟨q+1,jI,aY,aS,⟨hq2,cA hq2 hqall (by simpa using cq)⟩,by omega⟩
    ·have hqn:q=b.insts.length:=by simp at cp2;omega
     subst hqn
     rw[qt] at hqall
     refine yc<|ao<|ac jq jl Z Z<|aw j9 Z Zt Z Z<|ac isAgg60 Zt Z Z<|zh (pn f b.term (f9 htm)) Z<|aE Z<|z6<|zw Z (fun ct=>?_) (fun ct=>?_)
     ·refine ao<|ax Z<|z6<|ze<|zi (x:=.int _ _) Z ?_
      rw[hbad (by unfold fS;rw[hpall,hqall];simpa using ct)];rfl
     ·refine zg<|bj<|aF Z Z<|aa Z<|z6 ?_
      exact ⟨k+1,gB,aY,aS,⟨hk2,cA hk2 hall (by rw[hbk];unfold fS;rw[hpall,hqall];simpa using ct)⟩,by omega⟩
  ·have hkn:k=f.blocks.length:=by simp at ck;omega
   subst hkn
   rw[qt] at hall
   refine yc<|ao<|ax Z<|z6<|ze<|zi (x:=.int _ _) Z ?_
   unfold cK;rw[hsb,hall];rfl
end
section
open Go.Proofs.Tryz
open Go.Proofs Go.Lib
def gK (x:aD):Bool:=decide (18≤x.op)&&decide (x.op≤24)
def qZ (x:aD):Nat:=if gK x=true then 1 else 0
def bQ:List aD→Nat
 |[]=>0
 |x::r=>qZ x+bQ r
def cx (l:List Bool) (n:Nat) (x:aD):Bool:=gK x&&gb l n
def bA (l:List Bool):Nat→List aD→List aD
 |_,[]=>[]
 |n,x::r=>(if cx l n x=true then[] else[x])++bA l (n+qZ x) r
def eE (l:List Bool):Nat→List aI→List aI
 |_,[]=>[]
 |n,b::bs=>{ b with insts:=bA l n b.insts }::eE l (n+bQ b.insts) bs
def ba (l:List Bool) (f:ai):ai:={ f with blocks:=eE l 0 f.blocks }
def bb (bs:List aI) (i:Nat):Nat:=((bs.take i).map fun b=>bQ b.insts).sum
theorem gp (x:aD) (r:List aD):bQ (x::r)=qZ x+bQ r:=rfl
theorem fz (l:List Bool) (n:Nat) (x:aD) (r:List aD):bA l n (x::r)=(if cx l n x=true then[] else[x])++bA l (n+qZ x) r:=rfl
theorem mE (l:List Bool) (n:Nat) (x:aD):bA l n [x]=if cx l n x=true then[] else[x]:=List.append_nil _
theorem eU (l:List Bool) (n:Nat) (b:aI) (bs:List aI):eE l n (b::bs)={ b with insts:=bA l n b.insts }::eE l (n+bQ b.insts) bs:=rfl
theorem ga {f:ai} (h:cK f=true):b5 f:=by
 unfold cK at h
 simp only[qz] at h
 have:=h.1
 rw[eD] at this
 exact of_decide_eq_true this
theorem ll:∀(a b:List aD),bQ (a++b)=bQ a+bQ b
 |[],b=>by rw[List.nil_append];exact (Nat.zero_add _).symm
 |x::a,b=>by rw[List.cons_append,gp,gp,ll a b];omega
theorem fe (l:List Bool):∀(a b:List aD) (n:Nat),bA l n (a++b)=bA l n a++bA l (n+bQ a) b
 |[],b,n=>rfl
 |x::a,b,n=>by rw[List.cons_append,fz,fz,gp,fe l a b,qq,Nat.add_assoc]
theorem df (l:List Bool):∀(a:List aD) (n:Nat),List.Sublist (bA l n a) a
 |[],_=>.slnil
 |x::a,n=>by
  rw[fz]
  split
  ·exact (df l a _).cons x
  ·exact (df l a _).cons_cons x
theorem lm (l:List Bool):∀(bs:List aI) (n:Nat),(eE l n bs).length=bs.length
 |[],_=>rfl
 |b::bs,n=>by rw[eU,List.length_cons,lm l bs,List.length_cons]
theorem fA (l:List Bool):∀(bs:List aI) (n i:Nat),(eE l n bs)[i]?=(bs[i]?).map fun b=>{ b with insts:=bA l (n+bb bs i) b.insts }
 |[],_,_=>rfl
 |b::bs,n,0=>rfl
 |b::bs,n,i+1=>by
  rw[eU,List.getElem?_cons_succ,List.getElem?_cons_succ,fA l bs]
  have:bb (b::bs) (i+1)=bQ b.insts+bb bs i:=by unfold bb;rw[List.take_succ_cons,List.map_cons,List.sum_cons]
  rw[this,Nat.add_assoc]
theorem fB (l:List Bool) {bs:List aI} {n:Nat} {c:aI} (h:c∈eE l n bs):∃b∈bs,∃k,c={ b with insts:=bA l k b.insts }:=by
 obtain ⟨i,hi⟩:=List.getElem?_of_mem h
 rw[fA] at hi
 obtain ⟨b,hb,rfl⟩:=Option.map_eq_some_iff.1 hi
 exact ⟨b,qv hb,_,rfl⟩
section
variable {l:List Bool} {f:ai}
theorem dF:(ba l f).blocks.length=f.blocks.length:=lm l _ _
theorem mF:dk (ba l f)=dk f:=by funext v;unfold dk;rw[dF]
theorem ln:(ba l f).blocks.map (·.name)=f.blocks.map (·.name):=by
 show (eE l 0 f.blocks).map _=_
 generalize f.blocks=bs
 generalize 0=n
 induction bs generalizing n with
 |nil=>rfl
 |cons b bs ih=>rw[eU,List.map_cons,List.map_cons,ih]
theorem ow:∀(bs:List aI) (n:Nat),dD (eE l n bs)≤dD bs
 |[],_=>Nat.le_refl _
 |b::bs,n=>by
  have h1:=ow bs (n+bQ b.insts)
  have h2:=(df l b.insts n).length_le
  rw[eU]
  unfold dD at *
  simp only[List.map_cons,List.sum_cons]
  omega
theorem ox {t:fH}:bh (ba l f) t=bh f t:=by unfold bh;rw[mF];rfl
theorem oy (h:b5 f):b5 (ba l f):=by
 obtain ⟨h1,h2,h3,h4,h5,h6⟩:=h
 refine ⟨?_,h2,h3,fun i hi=>?_,Nat.le_trans (ow _ _) h5,fun c hc=>?_⟩
 ·unfold jK at h1 ⊢;rw[dF];exact h1
 ·have hi2:i<f.blocks.length:=by rw[←dF (l:=l)];exact hi
  have hn:(ba l f).blocks[i].name=f.blocks[i].name:=by
   have:=congrArg (fun m:List ByteArray=>m[i]?) (ln (l:=l) (f:=f))
   simp only[List.getElem?_map,qo hi,qo hi2,Option.map_some,Option.some.injEq] at this
   exact this
  obtain ⟨g1,g2⟩:=h4 i hi2
  unfold wh
  rw[hn]
  refine ⟨g1,?_⟩
  rw[List.map_take,ln,←List.map_take]
  exact g2
 ·obtain ⟨b,hb,k,rfl⟩:=fB l hc
  obtain ⟨g1,g2,g3⟩:=h6 b hb
  refine ⟨fun p hp=>?_,fun x hx=>g2 x ((df l _ _).subset hx),?_⟩
  ·have:=g1 p hp
   unfold l5 at this ⊢
   rw[mF]
   exact this
  ·rw[ox];exact g3
theorem pq (h:cK f=true):cK (ba l f)=true:=by
 have hS:=oy (l:=l) (ga h)
 unfold cK at h ⊢
 simp only[qz] at h ⊢
 refine ⟨by rw[eD];exact qx hS,?_⟩
 rw[List.all_eq_true] at h ⊢
 intro c hc
 obtain ⟨b,hb,k,rfl⟩:=fB l hc
 have:=h.2 b hb
 unfold fS at this ⊢
 simp only[qz] at this ⊢
 refine ⟨⟨this.1.1,?_⟩,this.2⟩
 have h2:=this.1.2
 rw[List.all_eq_true] at h2 ⊢
 exact fun x hx=>h2 x ((df l _ _).subset hx)
theorem pt (h:small f):small (ba l f):=by
 obtain ⟨h1,h2,h3,h4,h5⟩:=h
 refine ⟨h1,h2,by rw[dF];exact h3,h4,fun c hc=>?_⟩
 obtain ⟨b,hb,k,rfl⟩:=fB l hc
 obtain ⟨g1,g2,g3,g4,g5⟩:=h5 b hb
 exact ⟨g1,g2,Nat.le_trans (df l _ _).length_le g3,g4,fun x hx=>g5 x ((df l _ _).subset hx)⟩
theorem zT (h:∀b∈f.blocks,∀x∈b.insts,bT x.num):∀b∈(ba l f).blocks,∀x∈b.insts,bT x.num:=fun c hc x hx=>by
 obtain ⟨b,hb,k,rfl⟩:=fB l hc
 exact h b hb x ((df l _ _).subset hx)
def up (t:GS) (p g:Nat) (c:Nat→Nat):GS:={ t with pc:=p,st:=t.st+g,ck:=fun i=>t.ck i+c i }
theorem hH (x:Int):bP (ba l f) x={ bP f x with insts:=bA l (bb f.blocks x.toNat) (bP f x).insts }:=by
 unfold bP
 rw[show (ba l f).blocks=eE l 0 f.blocks from rfl,fA,Nat.zero_add]
 cases f.blocks[x.toNat]?<;>rfl
def jP (f:ai) (s:GS):Nat:=bb f.blocks s.blk.toNat+bQ ((bP f s.blk).insts.take s.pc)
structure fM (l:List Bool) (f:ai) (s t:GS) (g:Nat) (c:Nat→Nat):Prop where
 eq:s=up t s.pc g c
 pc:t.pc=(bA l (bb f.blocks s.blk.toNat) ((bP f s.blk).insts.take s.pc)).length
variable {s t:GS} {g:Nat} {c:Nat→Nat}
theorem fM.ended (h:fM l f s t g c):t.ended=s.ended:=by rw[h.eq];rfl
theorem fC {x:aD} {m:List aD} {p:Nat} (h:m[p]?=some x):m.take (p+1)=m.take p++[x]:=by
 obtain ⟨h1,rfl⟩:=List.getElem?_eq_some_iff.1 h
 exact qp h1
theorem vf {m:List aD} {p n:Nat} {x:aD} (h:m[p]?=some x) (hg:cx l (n+bQ (m.take p)) x=false):(bA l n m)[(bA l n (m.take p)).length]?=some x:=by
 obtain ⟨h1,e⟩:=List.getElem?_eq_some_iff.1 h
 have hm:m=m.take p++(x::m.drop (p+1)):=by rw[←e,←List.drop_eq_getElem_cons h1,List.take_append_drop]
 conv=>lhs;arg 1;rw[hm]
 rw[fe,List.getElem?_append_right (Nat.le_refl _),Nat.sub_self,fz,hg];rfl
theorem wC {m:List aD} {p n:Nat} (h:m[p]?=none):(bA l n m)[(bA l n (m.take p)).length]?=none:=by
 have:=List.getElem?_eq_none_iff.1 h
 rw[List.take_of_length_le this,List.getElem?_eq_none_iff]
 exact Nat.le_refl _
theorem fM.gone (h:fM l f s t g c) {x:aD} (hx:(bP f s.blk).insts[s.pc]?=some x) (hg:cx l (jP f s) x=true) (hne:(bI f s).ended=false):fM l f (bI f s) t (g+1) (fun i=>c i+if i=(x.op - 17).toNat then 1 else 0):=by
 have hck:18≤x.op∧x.op≤24:=by unfold cx gK at hg;simp at hg;exact hg.1
 have hst:bI f s=bi { s with pc:=s.pc+1,st:=s.st+1 } x:=by unfold bI;rw[hx]
 have h2:=h.pc
 obtain ⟨p0,rfl⟩:∃p0,s=up t p0 g c:=⟨s.pc,h.eq⟩
 rw[hst] at hne ⊢
 unfold bi at hne ⊢
 rw[if_pos hck] at hne ⊢
 split at hne
 ·rename_i hp
  rw[if_pos hp]
  refine ⟨?_,?_⟩
  ·unfold fc up
   simp only[GS.mk.injEq,true_and,and_true]
   refine ⟨by omega,?_⟩
   funext i
   split<;>rename_i hi<;>omega
  ·show t.pc=(bA l (bb f.blocks t.blk.toNat) ((bP f t.blk).insts.take (p0+1))).length
   unfold jP at hg
   have h2:t.pc=(bA l (bb f.blocks t.blk.toNat) ((bP f t.blk).insts.take p0)).length:=h2
   have hx:(bP f t.blk).insts[p0]?=some x:=hx
   rw[fC hx,fe,qu,←h2,mE]
   have hg:cx l (bb f.blocks t.blk.toNat+bQ ((bP f t.blk).insts.take p0)) x=true:=hg
   rw[if_pos hg];rfl
 ·cases hne
theorem pu {P:Prop} [Decidable P] (a b:GS) (p g:Nat) (c:Nat→Nat):up (if P then a else b) p g c=if P then up a p g c else up b p g c:=by split<;>rfl
theorem lp {α:Type} {P:Prop} [Decidable P] {a b c d:α} (h1:a=c) (h2:b=d):(if P then a else b)=if P then c else d:=by rw[h1,h2]
def nc (s a:GS):Prop:=a.pc=s.pc∧a.blk=s.blk
theorem Cv {P:Prop} [Decidable P] {s a b:GS} (h1:nc s a) (h2:nc s b):nc s (if P then a else b):=by
 by_cases h:P
 ·rw[if_pos h];exact h1
 ·rw[if_neg h];exact h2
theorem Dw (s:GS) (x:aD):nc s (doG s x):=by
 unfold doG
 repeat' (first|exact ⟨rfl,rfl⟩|refine Cv ?_ ?_)
theorem zU (s:GS) (x:aD):(bi s x).pc=s.pc∧(bi s x).blk=s.blk:=by
 unfold bi
 split
 ·split<;>exact ⟨rfl,rfl⟩
 ·exact Dw s x
theorem wD {x:aD} {p q:Nat} (t:GS) (g:Nat) (c:Nat→Nat):bi (up t p g c) x=up (bi { t with pc:=q } x) p g c:=by
 unfold bi
 rw[pu]
 refine lp ?_ ?_
 ·rw[pu]
  refine lp ?_ ?_
  ·unfold fc up
   simp only[GS.mk.injEq,true_and,and_true]
   funext i
   split<;>omega
  ·unfold qP fc up
   simp only[GS.mk.injEq,true_and,and_true]
   funext i
   split<;>omega
 ·unfold doG
  simp only[pu]
  repeat' (first|rfl|refine lp ?_ ?_)
theorem re (u t:GS) (p q g:Nat) (c:Nat→Nat):∀(ps:List cV) (t1:GS),ps.foldl (assign (up u p g c)) (up t1 q g c)=up (ps.foldl (assign u) t1) q g c
 |[],_=>rfl
 |x::ps,t1=>by
  rw[List.foldl_cons,List.foldl_cons,←re u t p q g c ps];rfl
theorem wE (t:GS) (p g:Nat) (c:Nat→Nat) (d:Int):cC f (up t p g c) d=up (cC (ba l f) t d) 0 g c∧(cC (ba l f) t d).pc=0∧(cC (ba l f) t d).blk=d:=by
 unfold cC
 rw[hH]
 dsimp only
 have hb:(up t p g c).blk=t.blk:=rfl
 rw[hb]
 split
 ·refine ⟨?_,rfl,rfl⟩
  rw[re t t]
  rfl
 ·exact ⟨rfl,rfl,rfl⟩
theorem fM.step (h:fM l f s t g c) (hg:∀x,(bP f s.blk).insts[s.pc]?=some x→cx l (jP f s) x=false):fM l f (bI f s) (bI (ba l f) t) g c:=by
 have h2:=h.pc
 obtain ⟨p0,rfl⟩:∃p0,s=up t p0 g c:=⟨s.pc,h.eq⟩
 have h2:t.pc=(bA l (bb f.blocks t.blk.toNat) ((bP f t.blk).insts.take p0)).length:=h2
 cases hx:(bP f t.blk).insts[p0]? with
 |some x=>
  have hgx:cx l (bb f.blocks t.blk.toNat+bQ ((bP f t.blk).insts.take p0)) x=false:=hg x hx
  have hst:bI f (up t p0 g c)=bi { up t p0 g c with pc:=p0+1,st:=(up t p0 g c).st+1 } x:=by
   have hx:(bP f (up t p0 g c).blk).insts[(up t p0 g c).pc]?=some x:=hx
   unfold bI;rw[hx];rfl
  have hsg:bI (ba l f) t=bi { t with pc:=t.pc+1,st:=t.st+1 } x:=by
   unfold bI
   rw[hH,h2]
   dsimp only
   rw[vf hx hgx]
  have hs2:({ up t p0 g c with pc:=p0+1,st:=(up t p0 g c).st+1 }:GS)=up { t with st:=t.st+1 } (p0+1) g c:=by
   unfold up
   simp only[GS.mk.injEq,true_and,and_true]
   omega
  have hu:=wD (x:=x) (p:=p0+1) (q:=t.pc+1) { t with st:=t.st+1 } g c
  have hpb:=zU { t with pc:=t.pc+1,st:=t.st+1 } x
  rw[hst,hs2,hu,hsg]
  refine ⟨Z,?_⟩
  rw[hpb.1]
  show t.pc+1=(bA l (bb f.blocks (bi { t with pc:=t.pc+1,st:=t.st+1 } x).blk.toNat) ((bP f (bi { t with pc:=t.pc+1,st:=t.st+1 } x).blk).insts.take (p0+1))).length
  rw[hpb.2]
  show t.pc+1=(bA l (bb f.blocks t.blk.toNat) ((bP f t.blk).insts.take (p0+1))).length
  rw[fC hx,fe,qu,←h2,mE,if_neg (by rw[hgx];decide)];rfl
 |none=>
  have hsg:bI (ba l f) t=if (bP f t.blk).term.kind=2 then cu { t with st:=t.st+1,val:=vi t.ints (bP f t.blk).term.var } 0 else cC (ba l f) { t with st:=t.st+1 } (fJ f t):=by
   have hn:fJ (ba l f) t=fJ f t:=by unfold fJ;rw[hH]
   unfold bI
   rw[hn,hH,h2]
   dsimp only
   rw[wC hx]
  have hst:bI f (up t p0 g c)=if (bP f t.blk).term.kind=2 then cu { up t p0 g c with st:=(up t p0 g c).st+1,val:=vi t.ints (bP f t.blk).term.var } 0 else cC f { up t p0 g c with st:=(up t p0 g c).st+1 } (fJ f t):=by
   have hx:(bP f (up t p0 g c).blk).insts[(up t p0 g c).pc]?=none:=hx
   unfold bI;rw[hx];rfl
  rw[hst,hsg]
  split
  ·refine ⟨?_,?_⟩
   ·unfold up cu
    simp only[GS.mk.injEq,true_and,and_true]
    omega
   ·exact h2
  ·have hs2:({ up t p0 g c with st:=(up t p0 g c).st+1 }:GS)=up { t with st:=t.st+1 } p0 g c:=by
    unfold up
    simp only[GS.mk.injEq,true_and,and_true]
    omega
   obtain ⟨u1,u2,u3⟩:=wE (l:=l) (f:=f) { t with st:=t.st+1 } p0 g c (fJ f t)
   rw[hs2,u1]
   refine ⟨Z,?_⟩
   rw[u2]
   show 0=(bA l _ (List.take 0 _)).length
   rw[List.take_zero];rfl
theorem fM.beg (i:pj):fM l f (g9 f i) (g9 (ba l f) i) 0 (fun _=>0):=by
 refine ⟨Z,?_⟩
 show 0=(bA l _ (List.take 0 _)).length
 rw[List.take_zero];rfl
theorem lq (f:ai):∀(a b:Nat) (s:GS),fR f (a+b) s=fR f b (fR f a s)
 |0,b,s=>by rw[Nat.zero_add];rfl
 |a+1,b,s=>by
  rw[show a+1+b=(a+b)+1 by omega]
  show (if s.ended=true then s else fR f (a+b) (bI f s))=fR f b (if s.ended=true then s else fR f a (bI f s))
  split
  ·rename_i h
   cases b with
   |zero=>rfl
   |succ b=>show s=if s.ended=true then s else _;rw[if_pos h]
  ·exact lq f a b _
end
end
section
open Go.Proofs.Tryz
open Go.Proofs Go.Lib
def pB (i:Nat):Nat→List aD→List (Int × Int)
 |_,[]=>[]
 |k,x::r=>(if gK x=true then[((i:Int),(k:Int))] else[])++pB i (k+1) r
def pA:Nat→List aI→List (Int × Int)
 |_,[]=>[]
 |i,b::bs=>pB i 0 b.insts++pA (i+1) bs
theorem rg (i:Nat) (x:aD):∀(l:List aD) (k:Nat),pB i k (l++[x])=pB i k l++if gK x=true then[((i:Int),((k+l.length:Nat):Int))] else[]
 |[],k=>by show (if gK x=true then _ else _)++pB i (k+1) []=_;simp[pB]
 |y::l,k=>by
  rw[List.cons_append]
  unfold pB
  rw[rg i x l (k+1),qq,List.length_cons,show k+1+l.length=k+(l.length+1) by omega]
theorem rh (b:aI):∀(l:List aI) (i:Nat),pA i (l++[b])=pA i l++pB (i+l.length) 0 b.insts
 |[],i=>by show pB i 0 b.insts++pA (i+1) []=_;simp[pA]
 |y::l,i=>by
  rw[List.cons_append]
  unfold pA
  rw[rh b l (i+1),qq,List.length_cons,show i+1+l.length=i+(l.length+1) by omega]
theorem gL (i:Nat):∀(l:List aD) (k:Nat),(pB i k l).length=bQ l
 |[],_=>rfl
 |x::l,k=>by
  show ((if gK x=true then[((i:Int),(k:Int))] else[])++pB i (k+1) l).length=_
  rw[qu,gL i l,gp]
  unfold qZ
  split<;>rfl
theorem wF:∀(l:List aI) (i:Nat),(pA i l).length=(l.map fun b=>bQ b.insts).sum
 |[],_=>rfl
 |b::l,i=>by
  unfold pA
  rw[qu,gL,wF l,List.map_cons,List.sum_cons]
theorem ri {l:List aD} {i k:Nat} {x:aD} (h:l[k]?=some x):pB i 0 (l.take (k+1))=pB i 0 (l.take k)++if gK x=true then[((i:Int),(k:Int))] else[]:=by
 obtain ⟨h1,rfl⟩:=List.getElem?_eq_some_iff.1 h
 rw[qp h1,rg,qw,Nat.min_eq_left (Nat.le_of_lt h1),Nat.zero_add]
theorem zV {l:List aI} {i:Nat} {b:aI} (h:l[i]?=some b):pA 0 (l.take (i+1))=pA 0 (l.take i)++pB i 0 b.insts:=by
 obtain ⟨h1,rfl⟩:=List.getElem?_eq_some_iff.1 h
 rw[qp h1,rh,qw,Nat.min_eq_left (Nat.le_of_lt h1),Nat.zero_add]
theorem wG (i:Nat):∀(l:List aD) (k n:Nat) (z:Int × Int),(pB i k l)[n]?=some z→∃(m:Nat) (x:aD),l[m]?=some x∧gK x=true∧z=((i:Int),((k+m:Nat):Int))∧n=bQ (l.take m)
 |[],_,_,_,h=>by simp[pB] at h
 |x::l,k,n,z,h=>by
  unfold pB at h
  by_cases hx:gK x=true
  ·rw[if_pos hx] at h
   cases n with
   |zero=>simp at h;exact ⟨0,x,rfl,hx,by rw[←h];rfl,rfl⟩
   |succ n=>
    obtain ⟨m,y,h1,h2,h3,h4⟩:=wG i l (k+1) n z (by simpa using h)
    exact ⟨m+1,y,h1,h2,by rw[h3,show k+1+m=k+(m+1) by omega],by rw[List.take_succ_cons];unfold bQ qZ;rw[if_pos hx];omega⟩
  ·rw[if_neg hx] at h
   obtain ⟨m,y,h1,h2,h3,h4⟩:=wG i l (k+1) n z (by simpa using h)
   exact ⟨m+1,y,h1,h2,by rw[h3,show k+1+m=k+(m+1) by omega],by rw[List.take_succ_cons];unfold bQ qZ;rw[if_neg hx];omega⟩
theorem BX:∀(l:List aI) (i n:Nat) (z:Int × Int),(pA i l)[n]?=some z→∃(j:Nat) (b:aI) (m:Nat) (x:aD),l[j]?=some b∧b.insts[m]?=some x∧gK x=true∧z=(((i+j:Nat):Int),(m:Int))∧n=bb l j+bQ (b.insts.take m)
 |[],_,_,_,h=>by simp[pA] at h
 |b::l,i,n,z,h=>by
  unfold pA at h
  by_cases hn:n<(pB i 0 b.insts).length
  ·rw[List.getElem?_append_left hn] at h
   obtain ⟨m,x,h1,h2,h3,h4⟩:=wG i _ _ _ _ h
   exact ⟨0,b,m,x,rfl,h1,h2,by rw[h3,Nat.zero_add];rfl,by rw[h4];unfold bb;simp⟩
  ·rw[List.getElem?_append_right (by omega)] at h
   obtain ⟨j,c,m,x,h1,h2,h3,h4,h5⟩:=BX l (i+1) _ z h
   refine ⟨j+1,c,m,x,h1,h2,h3,by rw[h4,show i+1+j=i+(j+1) by omega],?_⟩
   have:bb (b::l) (j+1)=bQ b.insts+bb l j:=by unfold bb;rw[List.take_succ_cons,List.map_cons,List.sum_cons]
   rw[gL] at h5 hn
   rw[this];omega
theorem ne {l:List aD} {m:Nat} {x:aD} (h:l[m]?=some x) (hx:gK x=true):bQ (l.take m)<bQ l:=by
 obtain ⟨h1,e⟩:=List.getElem?_eq_some_iff.1 h
 have:l=l.take m++(x::l.drop (m+1)):=by rw[←e,←List.drop_eq_getElem_cons h1,List.take_append_drop]
 conv=>rhs;rw[this]
 rw[ll]
 unfold bQ qZ
 rw[if_pos hx]
 cases e2:l.take m<;>(first|omega|(unfold bQ;omega))
theorem wH (i:Nat):∀(l:List aD) (k m:Nat) (x:aD),l[m]?=some x→gK x=true→(pB i k l)[bQ (l.take m)]?=some ((i:Int),((k+m:Nat):Int))
 |[],_,_,_,h,_=>by simp at h
 |y::l,k,0,x,h,hx=>by
  simp at h;subst h
  unfold pB
  rw[if_pos hx];rfl
 |y::l,k,m+1,x,h,hx=>by
  have:=wH i l (k+1) m x (by simpa using h) hx
  rw[List.take_succ_cons]
  unfold pB bQ qZ
  split
  ·rw[Nat.add_comm 1,show k+(m+1)=k+1+m by omega]
   simpa using this
  ·rw[Nat.zero_add,show k+(m+1)=k+1+m by omega]
   simpa using this
theorem px:∀(l:List aI) (i j m:Nat) (b:aI) (x:aD),l[j]?=some b→b.insts[m]?=some x→gK x=true→(pA i l)[bb l j+bQ (b.insts.take m)]?=some (((i+j:Nat):Int),(m:Int))
 |[],_,_,_,_,_,h,_,_=>by simp at h
 |c::l,i,0,m,b,x,h,h2,hx=>by
  simp at h;subst h
  have hp:=wH i _ 0 _ _ h2 hx
  unfold pA
  have e:bb (c::l) 0=0:=rfl
  rw[e,Nat.zero_add,List.getElem?_append_left (by rw[gL];exact ne h2 hx),hp,Nat.zero_add];rfl
 |c::l,i,j+1,m,b,x,h,h2,hx=>by
  have:=px l (i+1) j m b x (by simpa using h) h2 hx
  have e:bb (c::l) (j+1)=bQ c.insts+bb l j:=by unfold bb;rw[List.take_succ_cons,List.map_cons,List.sum_cons]
  unfold pA
  rw[e,List.getElem?_append_right (by rw[gL];omega),gL,show bQ c.insts+bb l j+bQ (b.insts.take m) - bQ c.insts=bb l j+bQ (b.insts.take m) by omega,this,show i+1+j=i+(j+1) by omega]
theorem py {l:List aI} {i:Nat} {b:aI} (h:l[i]?=some b):bb l (i+1)=bb l i+bQ b.insts:=by
 obtain ⟨h1,rfl⟩:=List.getElem?_eq_some_iff.1 h
 unfold bb
 rw[qp h1,List.map_append,List.sum_append];simp
theorem pz {f:ai} {j m:Nat} {b:aI} {x:aD} (h:f.blocks[j]?=some b) (h2:b.insts[m]?=some x) (hx:gK x=true):bb f.blocks j+bQ (b.insts.take m)<(pA 0 f.blocks).length:=by
 have:=px f.blocks 0 j m b x h h2 hx
 exact (List.getElem?_eq_some_iff.1 this).1
def ff (f:ai) (j m:Nat):Int:=match (f.blocks[j]?).bind fun b=>b.insts[m]? with
 |some x=>if gK x=true then (bb f.blocks j+bQ (((f.blocks[j]?).map (·.insts)).getD [] |>.take m):Nat) else -1
 |none=>-1
theorem gc {f:ai} {j m:Nat} {b:aI} {x:aD} (h:f.blocks[j]?=some b) (h2:b.insts[m]?=some x):ff f j m=if gK x=true then ((bb f.blocks j+bQ (b.insts.take m):Nat):Int) else -1:=by
 unfold ff;rw[h];simp[h2]
theorem vg {f:ai} {j m n:Nat} (h:(pA 0 f.blocks)[n]?=some ((j:Int),(m:Int))):ff f j m=n:=by
 obtain ⟨j',b,m',x,h1,h2,h3,h4,h5⟩:=BX _ _ _ _ h
 have e1:j=j':=by have:=(Prod.mk.inj h4).1;omega
 have e2:m=m':=by have:=(Prod.mk.inj h4).2;omega
 subst e1 e2
 rw[gc h1 h2,if_pos h3,h5]
theorem pC {f:ai} {j m:Nat} (h:∀n:Nat,(pA 0 f.blocks)[n]?≠some ((j:Int),(m:Int))):ff f j m=-1:=by
 cases hb:f.blocks[j]? with
 |none=>unfold ff;rw[hb];rfl
 |some b=>
  cases hx:b.insts[m]? with
  |none=>unfold ff;rw[hb];simp[hx]
  |some x=>
   rw[gc hb hx]
   by_cases hc:gK x=true
   ·have:=px f.blocks 0 j m b x hb hx hc
    rw[Nat.zero_add] at this
    exact absurd this (h _)
   ·rw[if_neg hc]
theorem pD {f:ai} {l:List Bool} {j m:Nat} {b:aI} {x:aD} (h:f.blocks[j]?=some b) (h2:b.insts[m]?=some x):cx l (bb f.blocks j+bQ (b.insts.take m)) x=(decide (0≤ff f j m)&&gb l (ff f j m)):=by
 rw[gc h h2]
 unfold cx
 by_cases hc:gK x=true
 ·rw[if_pos hc,hc,qx (by omega)]
 ·rw[if_neg hc];simp[hc]
end
section
open Go.Proofs.Tryz
open Go.Proofs Go.Lib Go.Shelf Go.RowKit
variable {E:World}
set_option maxRecDepth 20000
def zW (x:Bool):List AV:=[.bool x]
end
section
open Go.Proofs.Tryz
section
variable {S:Int→List Int} {at_:Int→Int} {V:List Int} {N:Int→Int}
end
section
variable {S:Int→List Int} {at_ V:List Int} {preds:Int→List Int} {n:Nat}
end
section
variable {E:Int→List Int} {n:Nat}
end
end
section
open Go.Proofs.Tryz
open Go.Proofs
variable {E:World}
set_option maxRecDepth 20000
end
section
open Go.Proofs.Tryz
open Go.Proofs
variable {E:World}
set_option maxRecDepth 20000
end
section
open Go.Proofs.Tryz
section
variable {E:World} {P:Program} {env:aH} {O O' O'':OL}
theorem aZ.knowIC {j off i m:Nat} {T T':TypeId} {cs:List AV} {l:List Int} (hO:cU O i (.grow 1 T (cI l)) O') (hP:eh O' j (.cells T' cs) (.cells T' (cs.set off (.fro 1 (l.map fun x=>[.int .i64 x])))) O'') (hc:cs[off]?=some (.own i m)) (hm:l.length=m):aZ E env O env O'':=
 aZ.knowC (rows:=l.map fun x=>[.int .i64 x]) (by rw[qT];exact hO) hP hc (fun r hr=>by obtain ⟨_,_,rfl⟩:=List.mem_map.1 hr;rfl) (by decide) (by rw[List.length_map];exact hm)
variable {d ty:Nat} {pos:String} {af:Array Edge} {x y z:Operand} {t u e T:TypeId}
end
end
section
open Go.Proofs.Tryz
open Go.Proofs
variable {E:World}
set_option maxRecDepth 20000
section
variable {S:Int→List Int} {n:Nat} (hG:wm S n)
include hG
end
end
section
open Go.Proofs.Tryz
open Go.Proofs
variable {E:World}
set_option maxRecDepth 20000
section
variable {S:Int→List Int} {n:Nat} (hG:wm S n)
include hG
end
end
section
open Go.Proofs.Tryz
open Go.Proofs Go.Lib Go.Shelf Go.RowKit
variable {E:World}
set_option maxRecDepth 20000
end
section
open Go.Proofs.Tryz
open Go.Proofs Go.Lib Go.Shelf Go.RowKit
variable {E:World}
set_option maxRecDepth 20000
end
section
open Go.Proofs.Tryz
open Go.Proofs Go.Lib Go.Shelf Go.RowKit
variable {E:World}
set_option maxRecDepth 20000
end
section
open Go.Proofs.Tryz
open Go.Proofs Go.Lib Go.Shelf Go.RowKit
variable {E:World}
set_option maxRecDepth 20000
end
section
open Go.Proofs.Tryz
open Go.Proofs Go.Lib Go.Shelf Go.RowKit
variable {E:World}
set_option maxRecDepth 20000
end
section
open Go.Proofs.Tryz
open Go.Proofs Go.Lib Go.Shelf Go.RowKit
variable {E:World}
set_option maxRecDepth 20000
end
section
open Go.Proofs.Tryz
open Go.Proofs Go.Lib Go.Shelf Go.RowKit
variable {E:World}
set_option maxRecDepth 20000
end
section
open Go.Proofs.Tryz
open Go.Proofs Go.Lib Go.Shelf Go.RowKit
variable {E:World}
set_option maxRecDepth 20000
end
section
open Go.Proofs.Tryz
open Go.Proofs Go.Lib Go.Shelf Go.RowKit
variable {E:World}
set_option maxRecDepth 20000
theorem dG (f:ai) (v:Int) (hv:bn f v=true):aV prog E 41 [.agg (bW f),.int .i64 v] (.int .i64 (bp f v)):=by
 obtain ⟨x,hx,hv2,hk⟩:=oq hv
 rw[hk]
 refine zr func41 Z (by decide) Z<|ao<|yf (cs:=_) Z Z Z<|ax Z<|z6<|ao<|aw jj Z Y4 Z Z<|aT Yb Z<|aa Z<|z8 (dj v.toNat Z5 Zx Z Z hv2 hx)<|aw Zi Z sizeOf71 Z Z<|aN isAgg71 Z<|ax Z<|z6<|ze<|zi (x:=.int _ _) Z ?_
 rfl
theorem lu (c:Int):aV prog E 43 [.int .u8 c] (.int .i64 (cH c)):=by
 refine zr func43 Z (by decide) Z<|ao<|ax Z<|z6<|zb<|ao<|aa Z<|z6<|zk<|ao<|az Z Z<|ab Z<|z6<|zw Z (fun c1=>?_) (fun c1=>?_)
 ·refine ao<|ax Z<|z6<|ze<|zi (x:=.int _ _) Z ?_
  unfold cH;simp_all
 ·refine ao<|az Z Z<|ab Z<|z6<|zw Z (fun c2=>?_) (fun c2=>?_)
  ·refine ao<|ax Z<|z6<|ze<|zi (x:=.int _ _) Z ?_
   unfold cH;simp_all
  ·refine zg<|ao<|ax Z<|z6<|ze<|zi (x:=.int _ _) Z ?_
   unfold cH;simp_all
theorem vh:∀j:Nat,j<27→decide ((bm (j:Int)).1=⟨#[99,111,112,121]⟩)=decide (j=1):=by decide
theorem kg {op:Int} (h:0≤op∧op≤26):((bm op).1=⟨#[99,111,112,121]⟩)↔op=1:=by
 have h1:=vh op.toNat (by omega)
 rw[w0 h.1] at h1
 constructor
 ·intro e
  have:decide (op.toNat=1)=true:=by rw[←h1];exact qx e
  have:=of_decide_eq_true this
  omega
 ·intro e
  have h2:op.toNat=1:=by omega
  have:decide ((bm op).1=⟨#[99,111,112,121]⟩)=true:=by rw[h1];exact qx h2
  exact of_decide_eq_true this
theorem lw {op:Int} (h:0≤op∧op≤26):ec[op.toNat]?=some (bm op):=by
 unfold bm
 have hl:op.toNat<ec.length:=by have:ec.length=27:=rfl;omega
 rw[if_pos h.1,qo hl];rfl
def ee (f:ai) (x:aD):List Int:=if x.op=1 then[bp f x.dst] else bg x.op
theorem vj {f:ai} {x:aD} (h:dZ f x):x.args.length=(ee f x).length:=by
 rw[h.len]
 unfold ee
 split
 ·rename_i e;rw[e];rfl
 ·rfl
theorem lx {f:ai} {x:aD} (h:dZ f x):fK f x=(decide (x.args.map (bp f)=ee f x)&&(!cQ x.op||(decide (x.op=1)||decide (bp f x.dst=gG x.op)))):=by
 unfold fK ee
 by_cases e:x.op=1
 ·have hl:=h.len
  rw[e,show (bg 1).length=1 from rfl] at hl
  obtain ⟨a,ha⟩:=List.length_eq_one_iff.1 hl
  rw[if_pos e,if_pos e,ha]
  simp[e]
  exact eq_comm
 ·rw[if_neg e,if_neg e];simp[e]
theorem pE {op:Int} {m:Nat} (h:m<(bg op).length):∃c:UInt8,(bm op).2.1.data[m]?=some c∧(bg op)[m]=cH (c.toNat:Int):=by
 have h1:m<(bm op).2.1.data.size:=by rw[iF] at h;exact h
 have e:(bg op)[m]?=((bm op).2.1.data.toList[m]?).map fun b=>cH b.toNat:=by unfold bg;rw[List.getElem?_map]
 rw[qo h,Array.getElem?_toList,Array.getElem?_eq_getElem h1] at e
 exact ⟨(bm op).2.1.data[m],by rw[Array.getElem?_eq_getElem h1],by simpa using e⟩
theorem pF {op:Int} (h:¬(bm op).2.2=⟨#[]⟩):∃c:UInt8,(bm op).2.2.data[0]?=some c∧gG op=cH (c.toNat:Int):=by
 unfold gG
 generalize (bm op).2.2=m at h ⊢
 obtain ⟨⟨l⟩⟩:=m
 cases l with
 |nil=>exact absurd rfl h
 |cons c l=>exact ⟨c,by simp,rfl⟩
end
section
open Go.Proofs.Tryz
open Go.Proofs Go.Lib Go.Shelf Go.RowKit
variable {E:World}
set_option maxRecDepth 20000
theorem wI {f:ai} {x:aD} {m:Nat} (e:x.op=1) (h:m<(ee f x).length):(ee f x)[m]=bp f x.dst:=by
 have h2:(ee f x)[m]?=some (bp f x.dst):=by
  unfold ee at h ⊢
  rw[if_pos e] at h ⊢
  simp at h
  subst h;rfl
 rw[qo h] at h2
 exact Option.some.inj h2
theorem wJ {f:ai} {x:aD} {m:Nat} (e:¬x.op=1) (h:m<(ee f x).length) (h':m<(bg x.op).length):(ee f x)[m]=(bg x.op)[m]:=by
 have h2:(ee f x)[m]?=some ((bg x.op)[m]):=by
  unfold ee
  rw[if_neg e,qo h']
 rw[qo h] at h2
 exact Option.some.inj h2
theorem vk {f:ai} {t:fH} (h:bh f t=true):t.kind=0∨t.kind=1∨t.kind=2:=by
 unfold bh at h
 by_cases h0:t.kind=0
 ·exact .inl h0
 ·rw[if_neg h0] at h
  by_cases h1:t.kind=1
  ·exact .inr (.inl h1)
  ·rw[if_neg h1] at h
   by_cases h2:t.kind=2
   ·exact .inr (.inr h2)
   ·rw[if_neg h2] at h;cases h
set_option maxHeartbeats 8000000 in
theorem mb (f:ai) (hf:small f) (hS:b5 f):aV prog E 28 [.agg (bW f)] (.bool (f.blocks.all (fS f))):=by
 have hn:=hf.2.2.1
 refine zr func28 Z (by decide) Z<|ao<|yf (cs:=_) Z Z Z<|ab Z<|z6<|zb<|ao<|aw jj Z Z6 Z Z<|aT Zk Z<|aj jp Z<|aa Z<|z6<|zk<|yd (γ:=Nat) [1,16,17] (fun i=>[(18,.int .i64 i)]) (fun i=>[]) (fun i=>i≤f.blocks.length∧(f.blocks.take i).all (fS f)=true) (fun i=>f.blocks.length - i) 0 aY aS (⟨qr _,Z⟩) ?_
 rintro i ⟨hi,hall⟩
 refine ao<|ay Z Z<|z6<|zb<|zp Z (fun ci=>?_) (fun ci=>?_)
 ·have hi2:i<f.blocks.length:=by simp at ci;omega
  obtain ⟨b,hbi⟩:∃b,f.blocks[i]=b:=⟨_,rfl⟩
  have hget:f.blocks[i]?=some b:=by rw[qo hi2,hbi]
  have hmem:b∈f.blocks:=hbi▸qs hi2
  obtain ⟨hb0,hb1,hb2,hb3,hb4⟩:=hf.2.2.2.2 b hmem
  obtain ⟨hPh,hIn,hTm⟩:=hS.2.2.2.2.2 b hmem
  have hbad:fS f b=false→f.blocks.all (fS f)=false:=fun h=>Bool.eq_false_iff.2 (ef hi2 (by rw[hbi];exact h))
  refine zg<|zb<|zk<|ao<|z8 (dj i jp ju Z Z Z hget)<|ac Y0 ju Z Z<|zz (cs:=[.str ⟨#[]⟩,.raw (.slice none 0 0),.raw (.slice none 0 0),.int .i64 0,.int .i64 0,.int .i64 0,.int .i64 0]) Ze Z Z<|fun i4=>zx ju Z Z Z Z Z Z .head Z<|zt (yo (t:=4) Z .head)<|z6<|zb<|ao<|aw j9 Z Zq Z Z<|aT Y8 Z<|aj jy Z<|aa Z<|z6<|zk<|yd (γ:=Nat) [1,4,16,17,18,23,24] (fun j=>[(25,.int .i64 j)]) (fun j=>[]) (fun j=>j≤b.phis.length∧(b.phis.take j).all (m8 f)=true) (fun j=>b.phis.length - j) 0 aY aS (⟨qr _,Z⟩) ?_
  rintro j ⟨hj,hjall⟩
  refine ao<|ay Z Z<|z6<|zb<|zp Z (fun cj=>?_) (fun cj=>?_)
  ·have hj2:j<b.phis.length:=by simp at cj;omega
   obtain ⟨p,hp⟩:∃p,b.phis[j]=p:=⟨_,rfl⟩
   have hpm:p∈b.phis:=hp▸qs hj2
   obtain ⟨hpd,hpl,hpn,hpa,hpf⟩:=hPh p hpm
   have hpb:=(hb3 p hpm).1
   refine zg<|zb<|zk<|ao<|z8 (dj j jy Za Z Z Z (by rw[qo hj2,hp])) ?_
   refine ac isAgg77 Za Z Z<|zz (cs:=[.int .i64 0,.raw (.slice none 0 0),.raw (.slice none 0 0)]) Zy Z Z<|fun i6=>zx Za Z Z Z Z Z Z .head Z<|zt (yo (t:=6) Z .head)<|z6<|ao<|aw jr Z jn Z Z<|aT js Z<|aj j6 Z<|aa Z<|z6<|zk<|yd (γ:=Nat) [1,4,6,16,17,18,23,24,25,30,31] (fun k=>[(32,.int .i64 k)]) (fun k=>[]) (fun k=>k≤p.args.length∧(p.args.take k).all (fun v=>decide (bp f v=bp f p.dst))=true) (fun k=>p.args.length - k) 0 aY aS (⟨qr _,Z⟩) ?_
   rintro k ⟨hk,hkall⟩
   refine ao<|ay Z Z<|z6<|zb<|zp Z (fun ck=>?_) (fun ck=>?_)
   ·have hk2:k<p.args.length:=by simp at ck;omega
    obtain ⟨v,hv⟩:∃v,p.args[k]=v:=⟨_,rfl⟩
    have hvv:=List.all_eq_true.1 hpa v (hv▸qs hk2)
    refine zg<|zb<|zk<|ao<|z8 (dj k j6 j7 Z Z Z (by rw[qo hk2,hv])) ?_
    refine aN je Z<|ax Z<|z6<|zb<|zo (fun j=>false) (by kernel_rfl) Z (zq (.rest _))<|ad 0 Z (yu jq jl Z Z)<|ad 1 Z (cG Z)<|ad 3 Z (yu jq jl Z Z)<|ad 4 Z (dV jr Z j7 Z Z)<|ad 5 Z (d8 je Z)<|bl 2 Z<|zh (dG f v hvv) Z<|z6<|bl 6 Z<|zh (dG f p.dst hpd) Z<|z6<|ad 7 Z (yl Z Z)<|dU<|zw Z (fun cq=>?_) (fun cq=>?_)
    ·have hq:¬bp f v=bp f p.dst:=by simpa using cq
     have hph:m8 f p=false:=by
      unfold m8
      rw[show (p.args.any fun v=>!decide (bp f v=bp f p.dst))=true from List.any_eq_true.2 ⟨v,hv▸qs hk2,by simp[hq]⟩];rfl
     refine ao<|ab Z<|z6<|ze<|zi (x:=.bool _) Z ?_
     rw[hbad (by unfold fS;rw[show b.phis.all (m8 f)=false from Bool.eq_false_iff.2 (ef hj2 (by rw[hp];exact hph))];rfl)]
    ·have hq:bp f v=bp f p.dst:=by simpa using cq
     refine zg<|bj<|aF Z Z<|aa Z<|z6 ?_
     exact ⟨k+1,jJ,aY,aS,⟨hk2,cA hk2 hkall (by rw[hv];simp[hq])⟩,by omega⟩
   ·have hkn:k=p.args.length:=by simp at ck;omega
    rw[hkn,qt] at hkall
    have hph:m8 f p=true:=by
     unfold m8
     rw[show (p.args.any fun v=>!decide (bp f v=bp f p.dst))=false from List.any_eq_false.2 fun v hv=>by have:=List.all_eq_true.1 hkall v hv;simpa using this];rfl
    refine yc<|bj<|aF Z Z<|aa Z<|z6 ?_
    exact ⟨j+1,jI,aY,aS,⟨hj2,cA hj2 hjall (by rw[hp];exact hph)⟩,by omega⟩
  ·have hjn:j=b.phis.length:=by simp at cj;omega
   subst hjn
   rw[qt] at hjall
   refine yc<|zb<|ao<|aw j9 Z jw Z Z<|aT Zb Z<|aj jm Z<|aa Z<|z6<|zk<|yd (γ:=Nat) [1,4,16,17,18,47,48] (fun k=>[(49,.int .i64 k)]) (fun k=>[]) (fun k=>k≤b.insts.length∧(b.insts.take k).all (fK f)=true) (fun k=>b.insts.length - k) 0 aY aS (⟨qr _,Z⟩) ?_
   rintro k ⟨hk,hkall⟩
   refine ao<|ay Z Z<|z6<|zb<|zp Z (fun ck=>?_) (fun ck=>?_)
   ·have hk2:k<b.insts.length:=by simp at ck;omega
    obtain ⟨z,hz⟩:∃z,b.insts[k]=z:=⟨_,rfl⟩
    have hzm:z∈b.insts:=hz▸qs hk2
    have hI:=m3 (hIn z hzm)
    have hzl:=hb4 z hzm
    have hwl:=vj hI
    have hdst:cQ z.op=true→bn f z.dst=true:=fun h=>by
     rcases hI.dst with ⟨d1,_⟩|⟨_,_,d3⟩
     ·rw[h] at d1;cases d1
     ·exact d3
    have hcopy:z.op=1→cQ z.op=true:=fun h=>by rw[h];rfl
    have hib:fK f z=false→f.blocks.all (fS f)=false:=fun h=>hbad (by unfold fS;rw[hjall,show b.insts.all (fK f)=false from Bool.eq_false_iff.2 (ef hk2 (by rw[hz];exact h))];rfl)
    refine zg<|zb<|zk<|ao<|z8 (dj k jm jv Z Z Z (by rw[qo hk2,hz])) ?_
    refine ac Zr jv Z Z<|zz (cs:=[.int .i64 0,.int .i64 0,.raw (.slice none 0 0),.int .i64 0]) Zs Z Z<|fun i10=>zx jv Z Z Z Z Z Z .head Z<|zt (yo (t:=10) Z .head)<|z6<|zb<|yp (γ:=Nat) [1,4,10,16,17,18,47,48,49] (fun g=>[(11,.po g 0)]) (fun g=>[(g,.cells 97 (l2 (bm z.op)))]) (fun g=>True) ?_ (fun _ _ h=>h) ?_
    ·refine zo (fun j=>false) (by kernel_rfl) Z (zq (.rest _))<|ad 1 Z (dV jd Z Z7 Z Z)<|ad 2 Z (d8 Zh Z)<|qb (i:=0) (j:=5) Z Z (by kernel_rfl) ?_ ?_
     ·refine zh (fb) Z<|z6<|ad 3 Z (dj z.op.toNat Ya Zw Z Z (by have:=hI.op;omega) (lw hI.op))<|ad 4 Z (yu isAgg97 Zw Z Z)<|bl 5 Z<|zz (cs:=[.str ⟨#[]⟩,.str ⟨#[]⟩,.str ⟨#[]⟩]) zeroValue97 Z Z<|fun i11=>z6<|bl 6 Z<|zx Zw Z Z Z Z Z Z .head Z<|z6<|dU ?_
      exact ⟨i11,⟨rfl,rfl,rfl,rfl,rfl,rfl,rfl,rfl,rfl,trivial⟩,aY,aS,trivial⟩
     ·refine zz (cs:=[.str ⟨#[]⟩,.str ⟨#[]⟩,.str ⟨#[]⟩]) zeroValue97 Z Z<|fun i11=>z6<|bl 0 Z<|zh (fb) Z<|z6<|ad 3 Z (dj z.op.toNat Ya Zw Z Z (by have:=hI.op;omega) (lw hI.op))<|ad 4 Z (yu isAgg97 Zw Z Z)<|bl 6 Z<|zx Zw Z Z Z Z Z Z .head Z<|z6<|dU ?_
      exact ⟨i11,⟨rfl,rfl,rfl,rfl,rfl,rfl,rfl,rfl,rfl,trivial⟩,aY,aS,trivial⟩
    ·rintro i11 _
     refine zb<|ao<|aw jd Z jn Z Z<|aT js Z<|aj j6 Z<|aa Z<|z6<|zk<|yd (γ:=Nat) [1,4,10,11,16,17,18,47,48,49,60] (fun m=>[(61,.int .i64 m)]) (fun m=>[(i11,.cells 97 (l2 (bm z.op)))]) (fun m=>m≤z.args.length∧(z.args.take m).map (bp f)=(ee f z).take m) (fun m=>z.args.length - m) 0 aY aS (⟨qr _,by simp⟩) ?_
     rintro m ⟨hm,hmall⟩
     refine ao<|ay Z Z<|z6<|zb<|zp Z (fun cm=>?_) (fun cm=>?_)
     ·have hm2:m<z.args.length:=by simp at cm;omega
      have hmw:m<(ee f z).length:=by omega
      have hmt:m<(bg z.op).length:=by have:=hI.len;omega
      obtain ⟨v,hv⟩:∃v,z.args[m]=v:=⟨_,rfl⟩
      have hvv:=hI.args v (hv▸qs hm2)
      obtain ⟨c,hc,hct⟩:=pE hmt
      have hbadm:¬bp f v=(ee f z)[m]→f.blocks.all (fS f)=false:=fun h=>hib (by rw[lx hI,qy (wu hm2 hmw (by rw[hv];exact h))];rfl)
      refine zg<|zb<|zk<|ao<|aa Z<|ax Z<|z6<|ao<|z8 (za Zj Z Zg (by decide) Z Z)<|z8 (zd (c:=.str _) Zn Z ⟨_,.head⟩ Z)<|aa Z<|z8 (Gv.indexT (j:=m) Zd Z Z Z hc)<|zh (lu (c.toNat:Int)) Z<|ax Z<|z6<|zb<|ao<|z8 (za Zj Z Zg (by decide) Z Z)<|z8 (zd (c:=.str _) Zn Z ⟨_,.head⟩ Z)<|z8 (yx Z Z)<|z6<|zw Z (fun cw=>?_) (fun cw=>?_)
      ·have ew:z.op=1:=(kg hI.op).1 (by simpa using cw)
       refine bj<|ac jq jl Z Z<|aw jd Z j7 Z Z<|aN je Z<|zh (dG f z.dst (hdst (hcopy ew))) Z<|ax Z<|z6<|zb<|zo (fun j=>false) (by kernel_rfl) Z (zq (.rest _))<|ad 0 Z (yu jq jl Z Z)<|ad 1 Z (dV jd Z jn Z Z)<|ad 2 Z (jH js Z)<|ad 3 Z (cG Z)<|ad 4 Z (dj m j6 j7 Z Z Z (by rw[qo hm2,hv])) ?_
       refine ad 5 Z (d8 je Z)<|ad 7 Z (cG Z)<|bl 6 Z<|zh (dG f v hvv) Z<|z6<|ad 8 Z (yl Z Z)<|dU<|zw Z (fun cq=>?_) (fun cq=>?_)
       ·have hq:¬bp f v=bp f z.dst:=by simpa using cq
        refine ao<|ab Z<|z6<|ze<|zi (x:=.bool _) Z ?_
        rw[hbadm (by rw[wI ew hmw];exact hq)]
       ·have hq:bp f v=bp f z.dst:=by simpa using cq
        refine zg<|bj<|aF Z Z<|aa Z<|z6 ?_
        exact ⟨m+1,jJ,aY,aS,⟨hm2,eZ hm2 hmw hmall (by rw[hv,wI ew hmw];exact hq)⟩,by omega⟩
      ·have ew:¬z.op=1:=fun e=>by have:=(kg hI.op).2 e;simp[this] at cw
       refine zg<|zb<|zo (fun j=>false) (by kernel_rfl) Z (zq (.rest _))<|ad 0 Z (yu jq jl Z Z)<|ad 1 Z (dV jd Z jn Z Z)<|ad 2 Z (jH js Z)<|ad 3 Z (cG Z)<|ad 4 Z (dj m j6 j7 Z Z Z (by rw[qo hm2,hv])) ?_
       refine ad 5 Z (d8 je Z)<|ad 7 Z (cG Z)<|bl 6 Z<|zh (dG f v hvv) Z<|z6<|ad 8 Z (yl Z Z)<|dU<|zw Z (fun cq=>?_) (fun cq=>?_)
       ·have hq:¬bp f v=cH (c.toNat:Int):=by simpa using cq
        refine ao<|ab Z<|z6<|ze<|zi (x:=.bool _) Z ?_
        rw[hbadm (by rw[wJ ew hmw hmt,hct];exact hq)]
       ·have hq:bp f v=cH (c.toNat:Int):=by simpa using cq
        refine zg<|bj<|aF Z Z<|aa Z<|z6 ?_
        exact ⟨m+1,jJ,aY,aS,⟨hm2,eZ hm2 hmw hmall (by rw[hv,wJ ew hmw hmt,hct];exact hq)⟩,by omega⟩
     ·have hmn:m=z.args.length:=by simp at cm;omega
      have hall2:z.args.map (bp f)=ee f z:=by rw[hmn,qt,hwl,qt] at hmall;exact hmall
      have hiw:=lx hI
      rw[qx hall2,Bool.true_and] at hiw
      refine yc<|zb<|zo (fun j=>false) (by kernel_rfl) Z (zq (.r (.rest _)))<|ad 0 Z (za Zj Z Zg (by decide) Z Z)<|ad 1 Z (zd (c:=.str _) Zn Z ⟨_,.head⟩ Z)<|ad 2 Z (Gv.neqT Z Z)<|ad 3 Z (yQ Z)<|bH.case (s:=89) Z (fun c1=>?_) (fun c1=>?_)
      ·have d1:¬(bm z.op).2.2=⟨#[]⟩:=by simpa using c1
       have dm:cQ z.op=true:=by rw[gl,qy d1];rfl
       obtain ⟨c,hc,hct⟩:=pF d1
       refine gW 4 Z Z Z c1 (za Zj Z Zg (by decide) Z Z)<|gW 5 Z Z Z c1 (zd (c:=.str _) Zn Z ⟨_,.head⟩ Z)<|gW 6 Z Z Z c1 (Gv.neqT Z Z)<|ad 7 Z (yS Z c1 Z)<|ad 8 Z (yQ Z)<|bH.case (s:=94) Z (fun c2=>?_) (fun c2=>?_)
       ·have ew:¬z.op=1:=fun e=>by have:=(kg hI.op).2 e;simp[this] at c2
        refine gW 9 Z Z Z c2 (yu jq jl Z Z)<|gW 10 Z Z Z c2 (dV jd Z j7 Z Z)<|gW 11 Z Z Z c2 (d8 je Z)<|gW 13 Z Z Z c2 (za Zj Z Zg (by decide) Z Z)<|gW 14 Z Z Z c2 (zd (c:=.str _) Zn Z ⟨_,.head⟩ Z)<|gW 15 Z Z Z c2 (Gv.indexT (j:=0) Zd Z Z Z hc)<|bl 12 Z<|z7 Z Z c2<|zh (dG f z.dst (hdst dm)) Z<|z6<|bl 16 Z<|z7 Z Z c2<|zh (lu (c.toNat:Int)) Z<|z6<|gW 17 Z Z Z c2 (yl Z Z)<|ad 18 Z (yS Z c2 Z)<|dU<|zw Z (fun cq=>?_) (fun cq=>?_)
        ·have hq:¬bp f z.dst=cH (c.toNat:Int):=by simpa using cq
         refine ao<|ab Z<|z6<|ze<|zi (x:=.bool _) Z ?_
         rw[hib (by rw[hiw,dm,qy ew,hct,qy hq];rfl)]
        ·have hq:bp f z.dst=cH (c.toNat:Int):=by simpa using cq
         refine zg<|bj<|aF Z Z<|aa Z<|z6 ?_
         exact ⟨k+1,jI,aY,⟨_,(.drop (.refl _)),rfl⟩,⟨hk2,cA hk2 hkall (by rw[hz,hiw,hct,qx hq];simp)⟩,by omega⟩
       ·have ew:z.op=1:=(kg hI.op).1 (by simpa using c2)
        refine er 9 Z Z Z c2<|er 10 Z Z Z c2<|er 11 Z Z Z c2<|er 12 Z Z Z c2<|er 13 Z Z Z c2<|er 14 Z Z Z c2<|er 15 Z Z Z c2<|er 16 Z Z Z c2<|er 17 Z Z Z c2<|ad 18 Z (yT Z c2 Z)<|dU<|yv Z Z<|zg<|bj<|aF Z Z<|aa Z<|z6 ?_
        exact ⟨k+1,jI,aY,⟨_,(.drop (.refl _)),rfl⟩,⟨hk2,cA hk2 hkall (by rw[hz,hiw,qx ew];simp)⟩,by omega⟩
      ·have d1:(bm z.op).2.2=⟨#[]⟩:=by simpa using c1
       have dm:cQ z.op=false:=by rw[gl,qx d1];rfl
       refine er 4 Z Z Z c1<|er 5 Z Z Z c1<|er 6 Z Z Z c1<|ad 7 Z (yT Z c1 Z)<|ad 8 Z (yQ Z)<|er 9 Z Z Z Z<|er 10 Z Z Z Z<|er 11 Z Z Z Z<|er 12 Z Z Z Z<|er 13 Z Z Z Z<|er 14 Z Z Z Z<|er 15 Z Z Z Z<|er 16 Z Z Z Z<|er 17 Z Z Z Z<|ad 18 Z (yT Z Z Z)<|dU<|yv Z Z<|zg<|bj<|aF Z Z<|aa Z<|z6 ?_
       exact ⟨k+1,jI,aY,⟨_,(.drop (.refl _)),rfl⟩,⟨hk2,cA hk2 hkall (by rw[hz,hiw,dm];rfl)⟩,by omega⟩
   ·have hkn:k=b.insts.length:=by simp at ck;omega
    rw[hkn,qt] at hkall
    refine yc<|ao<|aw j9 Z Zt Z Z<|ac isAgg60 Zt Z Z<|zz (cs:=[.int .i64 0,.int .i64 0,.int .i64 0,.int .i64 0]) zeroValue60 Z Z<|fun i14=>zx Zt Z Z Z Z Z Z .head Z<|zt (yo (t:=14) Z .head)<|z6<|zb<|yp (γ:=Bool) [1,16,17,18] (fun u=>[(152,.bool u)]) (fun u=>[]) (fun u=>u=!cM f b.term) ?_ (fun _ _ h=>h) ?_
    ·have hk3:=vk hTm
     refine bj<|aw ji Z Y3 Z Z<|aN Y9 Z<|az Z Z<|ah Z<|zm (s:=111) Z (fun c1=>?_) (fun c1=>?_)
     ·refine z7 Z Z c1<|ac jq jl Z Z<|z7 Z Z c1<|aw ji Z j7 Z Z<|z7 Z Z c1<|aN je Z<|z7 Z Z c1<|zh (dG f b.term.var (f9 hTm (by simp_all))) Z<|z7 Z Z c1<|z8 (yl Z Z)<|ap Z c1 Z<|ah Z<|zm (s:=118) Z (fun c2=>?_) (fun c2=>?_)
      ·refine z2 Z Z c2<|z2 Z Z c2<|z2 Z Z c2<|z2 Z Z c2<|zc Z Z<|zc Z Z<|zc Z Z<|zc Z Z<|zc Z Z<|zc Z Z<|zc Z Z<|zc Z Z<|zc Z Z<|zc Z Z<|zc Z Z<|zc Z Z<|zc Z Z<|zc Z Z<|zc Z Z<|zc Z Z<|zc Z Z<|z2 Z Z c2<|ap Z c2 Z<|ah Z<|z2 Z Z Z<|z2 Z Z Z<|z2 Z Z Z<|z2 Z Z Z<|zc Z Z<|zc Z Z<|zc Z Z<|zc Z Z<|z2 Z Z Z<|ap Z Z Z<|z6 ?_
       exact ⟨_,f0,aY,aS,by simp_all[cM]<;>omega⟩
      ·refine z7 Z Z c2<|aw ji Z Y3 Z Z<|z7 Z Z c2<|aN Y9 Z<|z7 Z Z c2<|az Z Z<|z7 Z Z c2<|ah Z<|zm (s:=122) Z (fun c3=>?_) (fun c3=>?_)
       ·refine z7 Z Z c3<|ac jq jl Z Z<|z7 Z Z c3<|aw ji Z j7 Z Z<|z7 Z Z c3<|aN je Z<|z7 Z Z c3<|zh (dG f b.term.var (f9 hTm (by simp_all))) Z<|z7 Z Z c3<|z8 (yl Z Z)<|z7 Z Z c3<|ah Z<|zm (s:=128) Z (fun c4=>?_) (fun c4=>?_)
        ·refine z2 Z Z c4<|z2 Z Z c4<|z2 Z Z c4<|z2 Z Z c4<|z7 Z Z c3<|ap Z c4 Z<|z7 Z Z c3<|ah Z<|z2 Z Z Z<|z2 Z Z Z<|z2 Z Z Z<|z2 Z Z Z<|z7 Z Z c3<|ap Z Z Z<|z7 Z Z c2<|ap Z c3 Z<|aq Z c2 Z<|ah Z<|z2 Z Z Z<|z2 Z Z Z<|z2 Z Z Z<|z2 Z Z Z<|zc Z Z<|zc Z Z<|zc Z Z<|zc Z Z<|z2 Z Z Z<|ap Z Z Z<|z6 ?_
         exact ⟨_,f0,aY,aS,by simp_all[cM]<;>omega⟩
        ·refine z7 Z Z c4<|aw ji Z Z4 Z Z<|z7 Z Z c4<|z8 (yz (j:=0) jx j7 Z Z Z (by decide) Z)<|z7 Z Z c4<|aN je Z<|z7 Z Z c4<|az Z Z<|z7 Z Z c3<|aq Z c4 Z<|z7 Z Z c3<|ah Z<|zm (s:=134) Z (fun c5=>?_) (fun c5=>?_)
         ·refine z2 Z Z c5<|z2 Z Z c5<|z2 Z Z c5<|z2 Z Z c5<|z7 Z Z c3<|ap Z c5 Z<|z7 Z Z c2<|ap Z c3 Z<|aq Z c2 Z<|ah Z<|z2 Z Z Z<|z2 Z Z Z<|z2 Z Z Z<|z2 Z Z Z<|zc Z Z<|zc Z Z<|zc Z Z<|zc Z Z<|z2 Z Z Z<|ap Z Z Z<|z6 ?_
          exact ⟨_,f0,aY,aS,by simp_all[cM]<;>omega⟩
         ·refine z7 Z Z c5<|aw ji Z Z4 Z Z<|z7 Z Z c5<|z8 (yz (j:=1) jx j7 Z Z Z (by decide) Z)<|z7 Z Z c5<|aN je Z<|z7 Z Z c5<|az Z Z<|z7 Z Z c3<|aq Z c5 Z<|z7 Z Z c2<|ap Z c3 Z<|aq Z c2 Z<|ah Z<|zm (s:=142) Z (fun c6=>?_) (fun c6=>?_)
          ·refine z2 Z Z c6<|z2 Z Z c6<|z2 Z Z c6<|z2 Z Z c6<|zc Z Z<|zc Z Z<|zc Z Z<|zc Z Z<|z2 Z Z c6<|ap Z c6 Z<|z6 ?_
           exact ⟨_,f0,aY,aS,by simp_all[cM]<;>omega⟩
          ·refine z7 Z Z c6<|aw ji Z Y3 Z Z<|z7 Z Z c6<|aN Y9 Z<|z7 Z Z c6<|az Z Z<|z7 Z Z c6<|ah Z<|zm (s:=146) Z (fun c7=>?_) (fun c7=>?_)
           ·refine z7 Z Z c7<|aw ji Z Z4 Z Z<|z7 Z Z c7<|z8 (yz (j:=0) jx j7 Z Z Z (by decide) Z)<|z7 Z Z c7<|aN je Z<|z7 Z Z c7<|az Z Z<|z7 Z Z c6<|ap Z c7 Z<|aq Z c6 Z<|z6 ?_
            exact ⟨_,f0,aY,aS,by simp_all[cM]<;>omega⟩
           ·refine z2 Z Z c7<|z2 Z Z c7<|z2 Z Z c7<|z2 Z Z c7<|z7 Z Z c6<|aq Z c7 Z<|aq Z c6 Z<|z6 ?_
            exact ⟨_,f0,aY,aS,by simp_all[cM]<;>omega⟩
       ·refine z2 Z Z c3<|z2 Z Z c3<|z2 Z Z c3<|z2 Z Z c3<|z2 Z Z c3<|z2 Z Z c3<|zc Z Z<|zc Z Z<|zc Z Z<|zc Z Z<|z2 Z Z c3<|z2 Z Z c3<|zc Z Z<|zc Z Z<|zc Z Z<|zc Z Z<|z2 Z Z c3<|z7 Z Z c2<|aq Z c3 Z<|aq Z c2 Z<|ah Z<|z7 Z Z Z<|aw ji Z Y3 Z Z<|z7 Z Z Z<|aN Y9 Z<|z7 Z Z Z<|az Z Z<|z7 Z Z Z<|ah Z<|zm (s:=146) Z (fun c8=>?_) (fun c8=>?_)
        ·refine z7 Z Z c8<|aw ji Z Z4 Z Z<|z7 Z Z c8<|z8 (yz (j:=0) jx j7 Z Z Z (by decide) Z)<|z7 Z Z c8<|aN je Z<|z7 Z Z c8<|az Z Z<|z7 Z Z Z<|ap Z c8 Z<|aq Z Z Z<|z6 ?_
         exact ⟨_,f0,aY,aS,by simp_all[cM]<;>omega⟩
        ·refine z2 Z Z c8<|z2 Z Z c8<|z2 Z Z c8<|z2 Z Z c8<|z7 Z Z Z<|aq Z c8 Z<|aq Z Z Z<|z6 ?_
         exact ⟨_,f0,aY,aS,by simp_all[cM]<;>omega⟩
     ·refine z2 Z Z c1<|z2 Z Z c1<|z2 Z Z c1<|z2 Z Z c1<|z2 Z Z c1<|aq Z c1 Z<|ah Z<|z7 Z Z Z<|aw ji Z Y3 Z Z<|z7 Z Z Z<|aN Y9 Z<|z7 Z Z Z<|az Z Z<|z7 Z Z Z<|ah Z<|zm (s:=122) Z (fun c9=>?_) (fun c9=>?_)
      ·refine z7 Z Z c9<|ac jq jl Z Z<|z7 Z Z c9<|aw ji Z j7 Z Z<|z7 Z Z c9<|aN je Z<|z7 Z Z c9<|zh (dG f b.term.var (f9 hTm (by simp_all))) Z<|z7 Z Z c9<|z8 (yl Z Z)<|z7 Z Z c9<|ah Z<|zm (s:=128) Z (fun c10=>?_) (fun c10=>?_)
       ·refine z2 Z Z c10<|z2 Z Z c10<|z2 Z Z c10<|z2 Z Z c10<|z7 Z Z c9<|ap Z c10 Z<|z7 Z Z c9<|ah Z<|z2 Z Z Z<|z2 Z Z Z<|z2 Z Z Z<|z2 Z Z Z<|z7 Z Z c9<|ap Z Z Z<|z7 Z Z Z<|ap Z c9 Z<|aq Z Z Z<|ah Z<|z2 Z Z Z<|z2 Z Z Z<|z2 Z Z Z<|z2 Z Z Z<|zc Z Z<|zc Z Z<|zc Z Z<|zc Z Z<|z2 Z Z Z<|ap Z Z Z<|z6 ?_
        exact ⟨_,f0,aY,aS,by simp_all[cM]<;>omega⟩
       ·refine z7 Z Z c10<|aw ji Z Z4 Z Z<|z7 Z Z c10<|z8 (yz (j:=0) jx j7 Z Z Z (by decide) Z)<|z7 Z Z c10<|aN je Z<|z7 Z Z c10<|az Z Z<|z7 Z Z c9<|aq Z c10 Z<|z7 Z Z c9<|ah Z<|zm (s:=134) Z (fun c11=>?_) (fun c11=>?_)
        ·refine z2 Z Z c11<|z2 Z Z c11<|z2 Z Z c11<|z2 Z Z c11<|z7 Z Z c9<|ap Z c11 Z<|z7 Z Z Z<|ap Z c9 Z<|aq Z Z Z<|ah Z<|z2 Z Z Z<|z2 Z Z Z<|z2 Z Z Z<|z2 Z Z Z<|zc Z Z<|zc Z Z<|zc Z Z<|zc Z Z<|z2 Z Z Z<|ap Z Z Z<|z6 ?_
         exact ⟨_,f0,aY,aS,by simp_all[cM]<;>omega⟩
        ·refine z7 Z Z c11<|aw ji Z Z4 Z Z<|z7 Z Z c11<|z8 (yz (j:=1) jx j7 Z Z Z (by decide) Z)<|z7 Z Z c11<|aN je Z<|z7 Z Z c11<|az Z Z<|z7 Z Z c9<|aq Z c11 Z<|z7 Z Z Z<|ap Z c9 Z<|aq Z Z Z<|ah Z<|zm (s:=142) Z (fun c12=>?_) (fun c12=>?_)
         ·refine z2 Z Z c12<|z2 Z Z c12<|z2 Z Z c12<|z2 Z Z c12<|zc Z Z<|zc Z Z<|zc Z Z<|zc Z Z<|z2 Z Z c12<|ap Z c12 Z<|z6 ?_
          exact ⟨_,f0,aY,aS,by simp_all[cM]<;>omega⟩
         ·refine z7 Z Z c12<|aw ji Z Y3 Z Z<|z7 Z Z c12<|aN Y9 Z<|z7 Z Z c12<|az Z Z<|z7 Z Z c12<|ah Z<|zm (s:=146) Z (fun c13=>?_) (fun c13=>?_)
          ·refine z7 Z Z c13<|aw ji Z Z4 Z Z<|z7 Z Z c13<|z8 (yz (j:=0) jx j7 Z Z Z (by decide) Z)<|z7 Z Z c13<|aN je Z<|z7 Z Z c13<|az Z Z<|z7 Z Z c12<|ap Z c13 Z<|aq Z c12 Z<|z6 ?_
           exact ⟨_,f0,aY,aS,by simp_all[cM]<;>omega⟩
          ·refine z2 Z Z c13<|z2 Z Z c13<|z2 Z Z c13<|z2 Z Z c13<|z7 Z Z c12<|aq Z c13 Z<|aq Z c12 Z<|z6 ?_
           exact ⟨_,f0,aY,aS,by simp_all[cM]<;>omega⟩
      ·refine z2 Z Z c9<|z2 Z Z c9<|z2 Z Z c9<|z2 Z Z c9<|z2 Z Z c9<|z2 Z Z c9<|zc Z Z<|zc Z Z<|zc Z Z<|zc Z Z<|z2 Z Z c9<|z2 Z Z c9<|zc Z Z<|zc Z Z<|zc Z Z<|zc Z Z<|z2 Z Z c9<|z7 Z Z Z<|aq Z c9 Z<|aq Z Z Z<|ah Z<|z7 Z Z Z<|aw ji Z Y3 Z Z<|z7 Z Z Z<|aN Y9 Z<|z7 Z Z Z<|az Z Z<|z7 Z Z Z<|ah Z<|zm (s:=146) Z (fun c14=>?_) (fun c14=>?_)
       ·refine z7 Z Z c14<|aw ji Z Z4 Z Z<|z7 Z Z c14<|z8 (yz (j:=0) jx j7 Z Z Z (by decide) Z)<|z7 Z Z c14<|aN je Z<|z7 Z Z c14<|az Z Z<|z7 Z Z Z<|ap Z c14 Z<|aq Z Z Z<|z6 ?_
        exact ⟨_,f0,aY,aS,by simp_all[cM]<;>omega⟩
       ·refine z2 Z Z c14<|z2 Z Z c14<|z2 Z Z c14<|z2 Z Z c14<|z7 Z Z Z<|aq Z c14 Z<|aq Z Z Z<|z6 ?_
        exact ⟨_,f0,aY,aS,by simp_all[cM]<;>omega⟩
    ·rintro u hu
     subst hu
     refine zw Z (fun ct=>?_) (fun ct=>?_)
     ·have dt:cM f b.term=false:=by simpa using ct
      refine ao<|ab Z<|z6<|ze<|zi (x:=.bool _) Z ?_
      rw[hbad (by unfold fS;rw[hjall,hkall,dt];rfl)]
     ·have dt:cM f b.term=true:=by simpa using ct
      refine zg<|bj<|aF Z Z<|aa Z<|z6 ?_
      exact ⟨i+1,gB,aY,aS,⟨hi2,cA hi2 hall (by rw[hbi];unfold fS;rw[hjall,hkall,dt];rfl)⟩,by omega⟩
 ·have hin:i=f.blocks.length:=by simp at ci;omega
  rw[hin,qt] at hall
  refine yc<|ao<|ab Z<|z6<|ze<|zi (x:=.bool _) Z ?_
  rw[hall]
end
end Go.Proofs.YtbconpmnckokoaaGreatDoor
