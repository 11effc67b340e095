/- The document's makers; its single and plain. Of programs that are little. -/
import Derived.Test.YtjpnhkmfhlnpcaaGreatDoorZh
import Derived.Test.YtjpnhkmfhlnpcaaGreatDoorZc
import Derived.Test.YtjpnhkmfhlnpcaaGreatDoorZg
import Derived.Test.YtjpnhkmfhlnpcaaGreatDoorZe
import Derived.LaidEqlPtr
set_option linter.unusedVariables false
set_option linter.unusedSimpArgs false
set_option linter.unusedSectionVars false
namespace Go.Proofs.YtjpnhkmfhlnpcaaGreatDoor
section
open Go.Proofs.Tryz
open Go.Proofs Go.Lib
theorem ej {f:ab} (h:aT f=true):bA f:=by
 unfold aT at h
 rw[w6,dS] at h
 exact w9 h.1
theorem dC {f:ab} (h:aT f=true):br f:=(ej h).ends
theorem xC {p:bu} (h:p.from_.length=p.args.length):(iF p).map (·.1)=p.from_:=by unfold iF;rw[List.map_fst_zip (by omega)]
section
variable {f:ab}
theorem Gy {x:Int} (h0:0≤x) (h1:x<f.blocks.length):f.blocks[x.toNat]'(by omega)=bb f x:=by unfold bb;rw[qq (by omega)];rfl
theorem mG (hJ:ep f) {x:Int} (h0:0≤x) (h1:x<f.blocks.length) {p:bu} (hp:p∈(bb f x).phis):p.from_.Perm (bE (au f) f.blocks.length x):=by
 have:=hJ x.toNat (by omega) p (by rw[Gy h0 h1];exact hp)
 rwa [w8 h0] at this
theorem im (hS:bA f) {x:Int} (h0:0≤x) (h1:x<f.blocks.length) {p:bu} (hp:p∈(bb f x).phis):nu f p:=(hS.2.2.2.2.2 _ (eO h0 h1)).1 p hp
theorem ua (hS:bA f) (hJ:ep f) {x:Int} (h0:0≤x) (h1:x<f.blocks.length) {p:bu} (hp:p∈(bb f x).phis):kT p:=by
 unfold kT
 rw[xC (im hS h0 h1 hp).2.1.symm]
 exact (mG hJ h0 h1 hp).nodup_iff.2 (dy (fun b=>cT f b) _ _).1
theorem ub (hT:aT f=true) {x:Int}:(0:Int) ∉ au f x:=fun hm=>by
 have hG:=(dC hT).grph
 by_cases hx:0≤x∧x<f.blocks.length
 ·have ht:cD f (bb f x).term=true:=by
   have h2:f.blocks.all (fw f)=true:=by unfold aT at hT;rw[w6] at hT;exact hT.2
   have:=List.all_eq_true.1 h2 _ (eO hx.1 hx.2)
   unfold fw at this
   simp only[w6] at this
   exact this.2
  rw[eh hx.1 hx.2] at hm
  generalize (bb f x).term=t at hm ht
  unfold aU at hm
  unfold cD at ht
  by_cases h0:t.kind=0
  ·rw[if_pos h0] at hm ht
   have:=List.mem_singleton.1 hm
   rw[←this] at ht;simp at ht
  ·rw[if_neg h0] at hm ht
   by_cases h1:t.kind=1
   ·rw[if_pos h1] at hm ht
    simp only[w6,Bool.not_eq_true',decide_eq_false_iff_not] at ht
    split at hm
    ·exact ht.1.2 (List.mem_singleton.1 hm).symm
    ·rcases List.mem_cons.1 hm with e|e
     ·exact ht.1.2 e.symm
     ·exact ht.2 (List.mem_singleton.1 e).symm
   ·rw[if_neg h1] at hm;cases hm
 ·rw[hG.out x hx] at hm;cases hm
theorem uc (hT:aT f=true) (hJ:ep f) {x:Int} (hx:x∈ord f) {p:bu} (hp:p∈(bb f x).phis):∃z∈iF p,z.1∈ord f:=by
 have hS:=ej hT
 have hE:=dC hT
 have hG:=hE.grph
 have hr:=bm hG.toEOk hx
 have hs:=im hS hr.1 hr.2 hp
 have hj:=mG hJ hr.1 hr.2 hp
 have hne:x≠0:=fun e=>by
  have hl:0<p.from_.length:=by have:=hs.2.1;have:=hs.2.2.1;omega
  have hm:=hj.mem_iff.1 (qu hl)
  have:=(bW hG.toEOk hG.out).1 hm
  rw[e] at this
  exact ub hT this
 obtain ⟨k,hk⟩:=List.getElem?_of_mem hx
 obtain ⟨j,y,_,hy,hyx⟩:=ml hG.toEOk k x hk hne
 have hyo:y∈ord f:=w0 hy
 obtain ⟨a,ha⟩:=tY hs.2.1.symm (hj.mem_iff.2 ((bW hG.toEOk hG.out).2 hyx))
 exact ⟨_,ha,hyo⟩
theorem Eo (hS:bA f) {a b:Nat} (ha:a<f.blocks.length) (hb:b<f.blocks.length) (h:a≠b):f.blocks[a].name≠f.blocks[b].name:=by
 have aux:∀{a b:Nat} (hb:b<f.blocks.length) (h:a<b),(f.blocks[a]'(by omega)).name≠f.blocks[b].name:=fun {a b} hb h=>by
  refine (hS.2.2.2.1 b hb).2 _ (List.mem_map.2 ⟨f.blocks[a],?_,Z⟩)
  refine w0 (i:=a) ?_
  rw[List.getElem?_take,if_pos h,qq]
 rcases Nat.lt_or_gt_of_ne h with k|k
 ·exact aux hb k
 ·exact fun e=>aux ha k e.symm
theorem xD {g:Nat→Nat} {l m:List Nat} (h:List.Sublist l m):(l.map g).sum≤(m.map g).sum:=by
 induction h with
 |slnil=>exact Nat.le_refl _
 |cons a _ ih=>rw[List.map_cons,List.sum_cons];omega
 |cons_cons a _ ih=>rw[List.map_cons,List.map_cons,List.sum_cons,List.sum_cons];omega
theorem ud (hT:aT f=true) (hJ:ep f):aT (bh f)=true∧ep (bh f):=by
 have hS:=ej hT
 have hE:=dC hT
 have h:=o4 hE hS hJ
 have hl:(bh f).blocks.length=(fy f).length:=qx ..
 have hle:(fy f).length≤f.blocks.length:=by
  have:=List.length_filter_le (fun b:Nat=>decide ((b:Int)∈ord f)) (List.range f.blocks.length)
  rw[List.length_range] at this;exact this
 have hpos:=(o3 hE).pos
 have hrl:∀{i:Nat} (hi:i<(fy f).length),(fy f)[i]<f.blocks.length:=fun hi=>List.mem_range.1 (List.mem_filter.1 (qu hi)).1
 have hrg:∀{x:Int},x∈ord f→0≤x∧x<f.blocks.length:=fun hx=>bm hE.grph.toEOk hx
 have hbn:∀i (hi:i<(bh f).blocks.length),(bh f).blocks[i].name=(f.blocks[(fy f)[i]'(by omega)]'(hrl (by omega))).name:=fun i hi=>by
  have e:(bh f).blocks[i]=eM (dK f) (fR f ((fy f)[i]'(by omega))) (bb f ((fy f)[i]'(by omega):Nat)):=List.getElem_map ..
  rw[e]
  show (bb f _).name=_
  rw[eN (qq (hrl (by omega)))]
 refine ⟨h.typed hS (fun v hv=>hv) (fun x hx p hp=>uc hT hJ hx hp) hT ?_ hS.2.1 hS.2.2.1 (fun i hi=>?_) ?_,h.joined (fun x hx p hp=>ua hS hJ (hrg hx).1 (hrg hx).2 hp) (fun x hx p hp=>(im hS (hrg hx).1 (hrg hx).2 hp).2.1.symm) hJ⟩
 ·have h1:=hS.1
  unfold kR at h1 ⊢
  simp only[Bool.or_eq_false_iff,decide_eq_false_iff_not] at h1 ⊢
  refine ⟨h1.1,h1.2.1,h1.2.2.1,by omega,by omega⟩
 ·have hi2:i<(fy f).length:=by omega
  refine ⟨by rw[hbn i hi];exact (hS.2.2.2.1 _ (hrl hi2)).1,fun s hs=>?_⟩
  obtain ⟨c,hc,rfl⟩:=List.mem_map.1 hs
  obtain ⟨j,hj⟩:=List.getElem?_of_mem hc
  rw[List.getElem?_take] at hj
  split at hj
  ·rename_i hji
   have hj2:j<(bh f).blocks.length:=by omega
   rw[qq hj2] at hj
   rw[←Option.some.inj hj,hbn i hi,hbn j hj2]
   exact Eo hS _ _ fun e=>by
    have:=(List.getElem_inj tV (h₀:=by omega) (h₁:=hi2)).1 e
    omega
  ·cases hj
 ·refine Nat.le_trans ?_ hS.2.2.2.2.1
  unfold eb
  show (((fy f).map _).map _).sum≤_
  rw[List.map_map]
  have e1:f.blocks.map (fun b:aB=>b.phis.length+b.insts.length)=(List.range f.blocks.length).map fun b:Nat=>(bb f b).phis.length+(bb f b).insts.length:=by
   apply List.ext_getElem
   ·simp
   ·intro i h1 h2
    rw[List.getElem_map,List.getElem_map,List.getElem_range,eN (qq (by simpa using h1))]
  rw[e1]
  refine Nat.le_trans (Nat.le_of_eq ?_) (xD (List.filter_sublist (p:=fun b:Nat=>decide ((b:Int)∈ord f))))
  congr 1
  refine List.map_congr_left fun b _=>?_
  show ((bb f b).phis.map _).length+_=_
  rw[qx];rfl
theorem ue (hs:small f):small (bh f):=by
 obtain ⟨h1,h2,h3,h4,h5⟩:=hs
 refine ⟨h1,h2,?_,h4,fun c hc=>?_⟩
 ·show ((fy f).map _).length≤_
  rw[qx]
  have:=List.length_filter_le (fun b:Nat=>decide ((b:Int)∈ord f)) (List.range f.blocks.length)
  rw[List.length_range] at this
  unfold fy;omega
 ·obtain ⟨b,hb,rfl⟩:=List.mem_map.1 hc
  have hb2:b<f.blocks.length:=List.mem_range.1 (List.mem_filter.1 hb).1
  obtain ⟨g1,g2,g3,g4,g5⟩:=h5 _ (eO (f:=f) (x:=b) (by omega) (by omega))
  refine ⟨g1,by show (List.map _ _).length≤_;rw[qx];exact g2,g3,fun q hq=>?_,g5⟩
  obtain ⟨p,hp,rfl⟩:=List.mem_map.1 hq
  have:=g4 p hp
  have hk:=List.length_filter_le (fun z:Int × Int=>decide (z.1∈fR f b∧0≤dK f z.1)) (iF p)
  have hz:(iF p).length≤p.args.length:=by unfold iF;rw[List.length_zip];omega
  have e1:(cL (dK f) (fR f b) p).args.length=(gW (dK f) (fR f b) p).length:=qx ..
  have e2:(cL (dK f) (fR f b) p).from_.length=(gW (dK f) (fR f b) p).length:=qx ..
  rw[e1,e2]
  unfold gW
  omega
end
end
section
open Go.Proofs.Tryz
open Go.Proofs Go.Lib
def CF (F:Nat→aB→aB) (f:ab):ab:={ f with blocks:=f.blocks.mapIdx F }
section
variable {F:Nat→aB→aB} {f:ab}
theorem fF (i:Nat):(CF F f).blocks[i]?=(f.blocks[i]?).map (F i):=List.getElem?_mapIdx
theorem mH:(CF F f).blocks.length=f.blocks.length:=List.length_mapIdx
theorem xE:du (CF F f)=du f:=by funext v;unfold du;rw[mH]
theorem vR {c:aB} (h:c∈(CF F f).blocks):∃i b,f.blocks[i]?=some b∧c=F i b:=by
 obtain ⟨i,hi⟩:=List.getElem?_of_mem h
 rw[fF] at hi
 obtain ⟨b,hb,e⟩:=Option.map_eq_some_iff.1 hi
 exact ⟨i,b,hb,e.symm⟩
theorem xF:∀(l:List aB) (F:Nat→aB→aB),(∀i b,l[i]?=some b→(F i b).phis.length+(F i b).insts.length≤b.phis.length+b.insts.length)→eb (l.mapIdx F)≤eb l
 |[],_,_=>Nat.le_refl _
 |b::l,F,h=>by
  have h1:=h 0 b rfl
  have h2:=xF l (fun i=>F (i+1)) fun i c hc=>h (i+1) c (by rw[List.getElem?_cons_succ];exact hc)
  rw[List.mapIdx_cons]
  unfold eb at *
  simp only[List.map_cons,List.sum_cons]
  omega
def Gz (F:Nat→aB→aB) (f:ab):Prop:=∀(i:Nat) (b:aB),f.blocks[i]?=some b→(F i b).name=b.name∧(F i b).insts=b.insts∧(F i b).phis.length≤b.phis.length∧(∀p∈(F i b).phis,nu f p∧nt f p=true)∧bj f (F i b).term=true∧cD f (F i b).term=true
theorem uf (h:Gz F f):(CF F f).blocks.map (·.name)=f.blocks.map (·.name):=by
 refine List.ext_getElem? fun i=>?_
 rw[qy,qy,fF]
 cases hb:f.blocks[i]? with
 |none=>rfl
 |some b=>exact congrArg some (h i b hb).1
theorem ug (hT:aT f=true) (h:Gz F f):aT (CF F f)=true:=by
 have hS:=ej hT
 have hS2:bA (CF F f):=by
  obtain ⟨h1,h2,h3,h4,h5,h6⟩:=hS
  refine ⟨?_,h2,h3,fun i hi=>?_,Nat.le_trans (xF f.blocks F fun i b hb=>?_) h5,fun c hc=>?_⟩
  ·unfold kR at h1 ⊢;rw[mH];exact h1
  ·have hi2:i<f.blocks.length:=by rw[←mH (F:=F)];exact hi
   have hn:(CF F f).blocks[i].name=f.blocks[i].name:=by
    have:=congrArg (fun m:List ByteArray=>m[i]?) (uf h)
    simp only[qy,qq hi,qq hi2,Option.map_some,Option.some.injEq] at this
    exact this
   obtain ⟨g1,g2⟩:=h4 i hi2
   unfold Cn
   rw[hn]
   refine ⟨g1,?_⟩
   rw[List.map_take,uf h,←List.map_take]
   exact g2
  ·obtain ⟨_,h8,h9,_⟩:=h i b hb
   rw[h8];omega
  ·obtain ⟨i,b,hb,rfl⟩:=vR hc
   obtain ⟨_,g2,_⟩:=h6 b (w0 hb)
   obtain ⟨_,k2,_,k4,k5,_⟩:=h i b hb
   refine ⟨fun p hp=>?_,fun x hx=>g2 x (by rw[←k2];exact hx),?_⟩
   ·have:=(k4 p hp).1
    unfold nu at this ⊢
    rw[xE]
    exact this
   ·have:bj (CF F f) (F i b).term=bj f (F i b).term:=by unfold bj;rw[xE];rfl
    rw[this];exact k5
 unfold aT at hT ⊢
 simp only[w6] at hT ⊢
 refine ⟨by rw[dS];exact w4 hS2,?_⟩
 rw[w7] at hT ⊢
 intro c hc
 obtain ⟨i,b,hb,rfl⟩:=vR hc
 have hb2:=hT.2 b (w0 hb)
 obtain ⟨_,k2,_,k4,_,k6⟩:=h i b hb
 unfold fw at hb2 ⊢
 simp only[w6] at hb2 ⊢
 refine ⟨⟨List.all_eq_true.2 fun p hp=>(k4 p hp).2,?_⟩,k6⟩
 rw[k2];exact hb2.1.2
theorem lX {x:Int} (h0:0≤x) (h1:x<f.blocks.length):bb (CF F f) x=F x.toNat (bb f x):=by
 unfold bb
 rw[fF,qq (by omega)];rfl
theorem GA (x:Int) (h:∀i b,f.blocks[i]?=some b→aU (F i b).term=aU b.term):au (CF F f) x=au f x:=by
 unfold au
 split
 ·rw[fF]
  cases hb:f.blocks[x.toNat]? with
  |none=>rfl
  |some b=>exact h _ b hb
 ·rfl
end
def bI (w:Int) (t:cC):cC:=if t.kind=1 then if w=1 then ⟨0,0,t.to0,0⟩ else if w=2 then ⟨0,0,t.to1,0⟩ else t else t
def eW (l:List Int) (i:Nat) (b:aB):aB:={ b with term:=bI ((l[i]?).getD 0) b.term }
def aL (l:List Int) (f:ab):ab:=CF (eW l) f
theorem vS (w:Int) (t:cC):∀c∈aU (bI w t),c∈aU t:=by
 intro c hc
 unfold bI at hc
 split at hc
 ·rename_i hk
  split at hc
  ·have hc:c=t.to0:=by simpa [aU] using hc
   unfold aU
   rw[if_neg (by omega),if_pos hk,hc];split<;>simp
  ·split at hc
   ·have hc:c=t.to1:=by simpa [aU] using hc
    unfold aU
    rw[if_neg (by omega),if_pos hk,hc]
    split
    ·rename_i e;rw[e];simp
    ·simp
   ·exact hc
 ·exact hc
section
variable {f:ab} {l:List Int}
theorem CG (hT:aT f=true):Gz (eW l) f:=fun i b hb=>by
 have hm:=w0 hb
 have hS:=(ej hT).2.2.2.2.2 b hm
 have hB:fw f b=true:=by
  unfold aT at hT
  rw[w6,w7] at hT
  exact hT.2 b hm
 unfold fw at hB
 simp only[w6,w7] at hB
 refine ⟨Z,Z,Nat.le_refl _,fun p hp=>⟨hS.1 p hp,hB.1.1 p hp⟩,?_⟩
 have h1:=hS.2.2
 have h2:=hB.2
 show bj f (bI _ b.term)=true∧cD f (bI _ b.term)=true
 unfold bI
 split
 ·rename_i hk
  unfold bj at h1
  unfold cD at h2
  rw[if_neg (by omega),if_pos hk] at h1 h2
  simp only[w6] at h1 h2
  split
  ·exact ⟨by unfold bj;rw[if_pos rfl];simp[h1.1.2],by unfold cD;rw[if_pos rfl];exact h2.1.2⟩
  ·split
   ·exact ⟨by unfold bj;rw[if_pos rfl];simp[h1.2],by unfold cD;rw[if_pos rfl];exact h2.2⟩
   ·exact ⟨hS.2.2,hB.2⟩
 ·exact ⟨h1,h2⟩
theorem da (hT:aT f=true):aT (aL l f)=true:=ug hT (CG hT)
theorem rI {x c:Int} (h:c∈au (aL l f) x):c∈au f x:=by
 unfold au at *
 split at h
 ·rename_i h0
  rw[if_pos h0]
  have e:(aL l f).blocks[x.toNat]?=(f.blocks[x.toNat]?).map (eW l x.toNat):=fF _
  rw[e] at h
  cases hb:f.blocks[x.toNat]? with
  |none=>rw[hb] at h;cases h
  |some b=>rw[hb] at h;exact vS _ _ _ h
 ·cases h
end
def iS (fr:List Int) (p:bu):List (Int × Int):=(iF p).filter fun z=>decide (z.1∈fr)
def fb (fr:List Int) (p:bu):bu:=⟨p.dst,(iS fr p).map (·.2),(iS fr p).map (·.1)⟩
def gh (fr:List Int) (ps:List bu):List bu:=if fr=[] then[] else ps.map (fb fr)
def uh (g:ab) (i:Nat) (b:aB):aB:={ b with phis:=gh (fR g i) b.phis }
def cF (g:ab):ab:=CF (uh g) g
theorem ui:∀l:List (Int × Int),(l.map (·.1)).zip (l.map (·.2))=l
 |[]=>rfl
 |z::l=>by rw[List.map_cons,List.map_cons,List.zip_cons_cons,ui l]
theorem rJ (fr:List Int) (p:bu):iF (fb fr p)=iS fr p:=ui _
theorem pg {fr:List Int} {p:bu} (h:p.from_.length=p.args.length):(fb fr p).from_=p.from_.filter fun a=>decide (a∈fr):=by
 show (iS fr p).map (·.1)=_
 rw[←xC h,List.filter_map];rfl
theorem ph {fr:List Int} {p:bu} {z:Int × Int} (h:z∈iS fr p):z.1∈p.from_∧z.2∈p.args:=List.of_mem_zip (List.mem_filter.1 h).1
def xG (g:ab):Prop:=∀(i:Nat) (b:aB),g.blocks[i]?=some b→∀p∈b.phis,(p.from_.filter fun a=>decide (a∈fR g i)).Perm (fR g i)
section
variable {g:ab}
theorem lp:au (cF g)=au g:=by funext x;exact GA x fun _ _ _=>rfl
theorem fc:(cF g).blocks.length=g.blocks.length:=mH
theorem rK:ord (cF g)=ord g:=by unfold ord;rw[lp,fc]
theorem Ep (b:Nat):fR (cF g) b=fR g b:=by unfold fR;rw[lp,fc]
theorem uj:fy (cF g)=fy g:=by unfold fy;rw[rK,fc]
theorem CH:dK (cF g)=dK g:=by funext x;unfold dK;rw[rK,uj]
theorem Eq (hT:aT g=true) (hW:xG g):Gz (uh g) g:=fun i b hb=>by
 have hm:=w0 hb
 have hS:=(ej hT).2.2.2.2.2 b hm
 have hB:fw g b=true:=by
  unfold aT at hT
  rw[w6,w7] at hT
  exact hT.2 b hm
 unfold fw at hB
 simp only[w6,w7] at hB
 refine ⟨Z,Z,?_,fun p hp=>?_,hS.2.2,hB.2⟩
 ·show (gh _ b.phis).length≤_
  unfold gh
  split
  ·exact qt _
  ·rw[qx];exact Nat.le_refl _
 ·have hp:p∈gh (fR g i) b.phis:=hp
  unfold gh at hp
  split at hp
  ·cases hp
  ·rename_i hne
   obtain ⟨q,hq,rfl⟩:=List.mem_map.1 hp
   obtain ⟨s1,s2,s3,s4,s5⟩:=hS.1 q hq
   have hlen:(fb (fR g i) q).args.length=(fb (fR g i) q).from_.length:=by
    show ((iS _ q).map _).length=((iS _ q).map _).length
    rw[qx,qx]
   refine ⟨⟨s1,hlen,?_,?_,?_⟩,?_⟩
   ·rw[hlen,pg s2.symm,(hW i b hb q hq).length_eq]
    exact List.length_pos_iff.2 hne
   ·refine List.all_eq_true.2 fun v hv=>?_
    obtain ⟨z,hz,rfl⟩:=List.mem_map.1 hv
    exact List.all_eq_true.1 s4 _ (ph hz).2
   ·refine List.all_eq_true.2 fun v hv=>?_
    obtain ⟨z,hz,rfl⟩:=List.mem_map.1 hv
    exact List.all_eq_true.1 s5 _ (ph hz).1
   ·have h2:=hB.1.1 q hq
    unfold nt at h2 ⊢
    rw[Bool.not_eq_true'] at h2 ⊢
    rw[List.any_eq_false] at h2 ⊢
    intro v hv
    obtain ⟨z,hz,rfl⟩:=List.mem_map.1 hv
    exact h2 _ (ph hz).2
theorem m4 (hT:aT g=true) (hW:xG g):aT (cF g)=true:=ug hT (Eq hT hW)
theorem pi (hT:aT g=true) (hW:xG g):ep (cF g):=fun i hi p hp=>by
 have hi2:i<g.blocks.length:=by rw[←fc];exact hi
 have e:(cF g).blocks[i]=uh g i g.blocks[i]:=by
  have:=fF (F:=uh g) (f:=g) i
  rw[qq hi2,Option.map_some] at this
  exact (List.getElem?_eq_some_iff.1 this).2
 rw[e] at hp
 have hp:p∈gh (fR g i) g.blocks[i].phis:=hp
 rw[lp,fc]
 unfold gh at hp
 split at hp
 ·cases hp
 ·obtain ⟨q,hq,rfl⟩:=List.mem_map.1 hp
  have hs:=((ej hT).2.2.2.2.2 _ (qu hi2)).1 q hq
  rw[pg hs.2.1.symm]
  exact hW i _ (qq hi2) q hq
theorem m5 (hT:aT g=true) (h0:(bb g 0).phis=[]):bh (cF g)=bh g:=by
 have hE:=dC hT
 unfold bh
 rw[uj,CH]
 show ab.mk g.vars g.params _=_
 congr 1
 refine List.map_congr_left fun b hb=>?_
 have hbo:=(j5 hE).1 hb
 have hr:=bm hE.grph.toEOk hbo
 rw[Ep]
 have e:bb (cF g) b=uh g b (bb g b):=lX hr.1 hr.2
 rw[e]
 unfold eM
 show aB.mk _ _ _ _=_
 congr 1
 show (gh (fR g b) (bb g b).phis).map _=_
 unfold gh
 split
 ·rename_i hn
  by_cases hz:(b:Int)=0
  ·rw[hz,h0]
  ·exfalso
   obtain ⟨k,hk⟩:=List.getElem?_of_mem hbo
   obtain ⟨j,y,_,hy,hyx⟩:=ml hE.grph.toEOk k b hk hz
   have:y∈fR g b:=(bW hE.grph.toEOk hE.grph.out).2 hyx
   rw[hn] at this;cases this
 ·rw[List.map_map]
  refine List.map_congr_left fun p _=>?_
  show cL _ _ (fb _ p)=_
  have hk:gW (dK g) (fR g b) (fb (fR g b) p)=gW (dK g) (fR g b) p:=by
   unfold gW
   rw[rJ]
   unfold iS
   rw[List.filter_filter]
   refine List.filter_congr fun z _=>?_
   by_cases h:z.1∈fR g b<;>simp[h]
  unfold cL
  rw[hk];rfl
end
section
variable {f:ab} {l:List Int}
theorem vT (hT:aT f=true) (hJ:ep f):(bb f 0).phis=[]:=by
 have hE:=dC hT
 refine List.eq_nil_iff_forall_not_mem.2 fun p hp=>?_
 have hpos:(0:Int)<f.blocks.length:=by have:=hE.pos;omega
 have hs:=im (ej hT) (Int.le_refl 0) hpos hp
 have hl:0<p.from_.length:=by have:=hs.2.1;have:=hs.2.2.1;omega
 have hm:=(mG hJ (Int.le_refl 0) hpos hp).mem_iff.1 (qu hl)
 exact ub hT ((bW hE.grph.toEOk hE.grph.out).1 hm)
theorem pj (hT:aT f=true) (hJ:ep f):xG (aL l f):=fun i b hb p hp=>by
 have hE:=dC hT
 have hEg:=dC (da (l:=l) hT)
 have e:(aL l f).blocks[i]?=(f.blocks[i]?).map (eW l i):=fF i
 rw[e] at hb
 obtain ⟨c,hc,rfl⟩:=Option.map_eq_some_iff.1 hb
 obtain ⟨hi,rfl⟩:=List.getElem?_eq_some_iff.1 hc
 have hper:=hJ i hi p hp
 refine (hper.filter _).trans ?_
 have n1:=(dy (fun b=>cT f b) f.blocks.length i).1
 have n2:=(dy (fun b=>cT (aL l f) b) (aL l f).blocks.length i).1
 refine (List.perm_ext_iff_of_nodup (n1.filter _) n2).2 fun a=>?_
 rw[List.mem_filter,wa]
 constructor
 ·exact fun h=>h.2
 ·exact fun h=>⟨(bW hE.grph.toEOk hE.grph.out).2 (rI ((bW hEg.grph.toEOk hEg.grph.out).1 h)),h⟩
theorem pk (hT:aT f=true) (hJ:ep f):(bb (aL l f) 0).phis=[]:=by
 have hpos:(0:Int)<f.blocks.length:=by have:=(dC hT).pos;omega
 have e:bb (aL l f) 0=eW l 0 (bb f 0):=lX (Int.le_refl 0) hpos
 rw[e]
 exact vT hT hJ
theorem j7 (hT:aT f=true) (hJ:ep f):aT (bh (aL l f))=true∧ep (bh (aL l f)):=by
 have hTg:=da (l:=l) hT
 have hW:=pj (l:=l) hT hJ
 rw[←m5 hTg (pk hT hJ)]
 exact ud (m4 hTg hW) (pi hTg hW)
end
end
section
open Go.Proofs.Tryz
open Go.Proofs Go.Lib Go.Shelf Go.RowKit
variable {E:World}
set_option maxRecDepth 20000
theorem lq (f:ab) (hf:small f) (hL:aj E):aZ prog E 36 [.agg (bQ f)] (.bool (aT f)):=by
 refine zo func36 Z (by decide) Z<|ah<|yb (cs:=_) Z Z Z<|ad Z<|z7<|ah<|ac js jk Z Z<|zi (vL f hf hL) Z<|ax Z Z<|ad Z<|z7<|zf<|zh (x:=.bool _) Z ?_
 cases aT f<;>rfl
theorem gL {f:ab} (h:aT f=true):br f:=by
 unfold aT at h
 rw[w6,dS] at h
 exact (w9 h.1).ends
theorem Iu (f:ab) (hf:small f) (hL:aj E) (ht:aT f=true):aZ prog E 95 [.agg (bQ f)] (Ga eI (dl f f.blocks.length)):=by
 have hn:=hf.2.2.1
 refine zo func95 Z (by decide) Z<|ah<|yb (cs:=_) Z Z Z<|za (rv Z)<|z7<|zb<|ah<|ac js jk Z Z<|zi (lq f hf hL) Z<|aD Z<|z7<|yp Z (by rw[ht];rfl)<|ze<|ah<|ac js jk Z Z<|zi (lg f (gL ht) (by omega)) Z<|za (va Z)<|z7<|zf<|zh (x:=.fro _ _) Z ?_
 rfl
theorem uk (f:ab) (hE:br f) (hn:f.blocks.length≤1000):aZ prog E 67 [.agg (bQ f)] (.fro 1 ((aK (au f) f.blocks.length).map b5)):=
 vA f hE (by omega) fun l i T h=>tM l i T h
def Km (x:Bool):List AV:=[.bool x]
theorem vU (f:ab) (hE:br f) (hn:f.blocks.length≤1000):aZ prog E 40 [.agg (bQ f)] (.fro 1 ((fZ (au f) f.blocks.length).map Km)):=by
 have hG:=hE.grph
 have hol:=mo hG
 refine zo func40 Z (by decide) Z<|ah<|yb (cs:=_) Z Z Z<|za (rv Z)<|z7<|ah<|aq ji Z Z0 Z Z<|aM Z6 Z<|ae jl Z<|ao.makeB (m:=f.blocks.length) jn Y2 Z Z Z Z Z (by simp) (by simp) (by show (1:Int)*_≤_;omega) (by omega)<|fun i9=>za (ef Z)<|z7<|zb<|ah<|ac js jk Z Z<|zi (uk f hE hn) Z<|ae jd Z<|aa Z<|z7<|zg<|y7 (γ:=Nat) [3,11,12] (fun k=>[(13,.int .i64 k)]) (fun k=>[(i9,.grow 1 4 (cB (lK (List.replicate f.blocks.length false) ((aK (au f) f.blocks.length).take k))))]) (fun k=>k≤(aK (au f) f.blocks.length).length) (fun k=>(aK (au f) f.blocks.length).length - k) 0 aW aN (qt _) ?_
 rintro k hk
 refine ah<|ay Z Z<|z7<|zb<|zm Z (fun ck=>?_) (fun ck=>?_)
 ·have hk2:k<(aK (au f) f.blocks.length).length:=by simp at ck;omega
  obtain ⟨b,hb⟩:∃b,(aK (au f) f.blocks.length)[k]=b:=⟨_,rfl⟩
  have hr:=bm hG.toEOk (hb▸qu hk2)
  refine ze<|zb<|zg<|ah<|za (cH k jd je Z Z Z (by rw[qq hk2,hb])) ?_
  refine aE jj Z<|aw Z<|z7<|bi<|za (kP Z)<|aa Z<|za (yj (j:=b.toNat) jn Z3 Z Z (by omega) ⟨_,.head⟩ (by rw[bt,hU];simp) (by omega))<|qe (j:=b.toNat) Z3 Z Z .head (by rw[hU];simp;omega)<|z7<|bi<|aC Z Z<|aa Z<|z7 ?_
  exact ⟨k+1,hZ,aW,⟨_,(.refl _),by rw[qr hk2,vq,hb]⟩,hk2,by omega⟩
 ·have hkn:k=(aK (au f) f.blocks.length).length:=by simp at ck;omega
  subst hkn
  rw[qv]
  refine zz<|ah<|za (kP Z)<|za (ef Z)<|z7<|yc (aX.knowB (t:=2) Z .head (by rw[hU];simp))<|zf<|zh (x:=.fro _ _) Z ?_
  rfl
theorem Ja (xs:List Int) (hl:xs.length≤1000):bY prog E 39 [.fro 1 (xs.map b5)] [] (fun x O'=>∃i:Nat,x=.own i xs.length∧O'=[(i,.grow 1 3 (cI xs))]):=by
 refine zo func39 Z (by decide) Z<|ah<|za (rv Z)<|z7<|zb<|ah<|bC Z<|ao.isNil jd Z Z (fun hnil=>?_) ?_
 ·have hx:xs=[]:=by simpa using hnil
  subst hx
  refine z7<|yt Z Z<|ah<|za (rv Z)<|z7<|zf ?_
  repeat (first|refine bg ?_|refine aQ ?_)
  refine mu (s:=2) (k:=1) (T:=3) Z (fun i=>?_)
  refine zh (x:=.own _ _) Z ?_
  exact ⟨i,rfl,rfl⟩
 ·refine z7<|yp Z Z<|ze<|ah<|ye (k:=1) jd Zo<|fun i5=>bC Z<|ym (k:=1) jd Zo Z Z Z Z Z (fun _=>.head) (by simp) (by decide) (oT (fun _=>Z) xs) (by show (_+_)*8≤_;simp<;>omega) (by simp<;>omega)<|fun i7=>za (ef Z)<|z7<|zf<|zh (x:=.own _ _) Z ?_
  exact ⟨i7,(by simp),by rw[←nR];rfl⟩
theorem pm (f:ab) {k:Nat} (h:k<f.blocks.length):(dl f f.blocks.length)[k]?=some (bE (au f) f.blocks.length (k:Int)):=by unfold dl;rw[qy,List.getElem?_range h];rfl
theorem ul (f:ab) (hE:br f) (hf:small f):aZ prog E 37 [.agg (bQ f)] (.bool (cO f)):=by
 have hn:=hf.2.2.1
 refine zo func37 Z (by decide) Z<|ah<|yb (cs:=_) Z Z Z<|ad Z<|z7<|ah<|ac js jk Z Z<|zi (lg f hE (by omega)) Z<|za (va Z)<|z7<|zb<|ah<|aq ji Z Z0 Z Z<|aM Z6 Z<|ae jl Z<|aa Z<|z7<|zg<|y7 (γ:=Nat) [3,12,13] (fun k=>[(14,.int .i64 k)]) (fun k=>[]) (fun k=>k≤f.blocks.length∧(List.range k).all (DM f)=true) (fun k=>f.blocks.length - k) 0 aW aN (⟨qt _,Z⟩) ?_
 rintro k ⟨hk,hall⟩
 refine ah<|ay Z Z<|z7<|zb<|zm Z (fun ck=>?_) (fun ck=>?_)
 ·have hk2:k<f.blocks.length:=by simp at ck;omega
  obtain ⟨b,hbk⟩:∃b,f.blocks[k]=b:=⟨_,rfl⟩
  have hget:f.blocks[k]?=some b:=by rw[qq hk2,hbk]
  obtain ⟨hb0,hb1,hb2,hb3,hb4⟩:=hf.2.2.2.2 b (hbk▸qu hk2)
  refine ze<|zb<|zg<|ah<|aa Z<|za (cH k jl jv Z Z Z hget)<|ac Zu jv Z Z<|zy (cs:=[.str ⟨#[]⟩,.raw (.slice none 0 0),.raw (.slice none 0 0),.int .i64 0,.int .i64 0,.int .i64 0,.int .i64 0]) Zc Z Z<|fun i5=>aw Z<|zt jv Z Z Z Z Z Z .head Z<|zx (yo (t:=5) Z .head)<|z7<|ah<|aq jh Z Zf Z Z<|aM Zv Z<|ae jx Z<|aa Z<|z7<|zg<|y7 (γ:=Nat) [3,4,12,13,14,20,21] (fun j=>[(22,.int .i64 j)]) (fun j=>[]) (fun j=>j≤b.phis.length∧(b.phis.take j).all (FW f k)=true) (fun j=>b.phis.length - j) 0 aW aN (⟨qt _,Z⟩) ?_
  rintro j ⟨hj,hjall⟩
  refine ah<|ay Z Z<|z7<|zb<|zm Z (fun cj=>?_) (fun cj=>?_)
  ·have hj2:j<b.phis.length:=by simp at cj;omega
   have hpf:=(hb3 _ (qu hj2)).2
   refine ze<|zb<|zg<|ah<|za (cH j jx Z1 Z Z Z (qq hj2))<|ac Y0 Z1 Z Z<|zy (cs:=[.int .i64 0,.raw (.slice none 0 0),.raw (.slice none 0 0)]) Ze Z Z<|fun i7=>zt Z1 Z Z Z Z Z Z .head Z<|zx (yo (t:=7) Z .head)<|z7<|ah<|aq jq Z jm Z Z<|aM jw Z<|yu Z (zu (.rest _)) (Ja b.phis[j].from_ hpf) ?_
   rintro r28 O28 ⟨i8,rfl,rfl⟩
   refine za (ef Z)<|z7<|ah<|za (kP Z)<|yu Z (zu (.l (.rest _))) (DZ b.phis[j].from_ i8 _ (by omega)) ?_
   rintro r30 O30 ⟨rfl,rfl⟩
   refine z7<|yc (aX.knowI (t:=8) Z .head (by rw[(fY _).length_eq]))<|ah<|bC Z<|bC Z<|aa Z<|za (cH k underlying89 jm Z Z Z (pm f hk2))<|aM jw Z<|zi (tE (mX b.phis[j].from_) (bE (au f) f.blocks.length (k:Int)) (by unfold p6;rw[(fY _).length_eq];omega)) Z<|aD Z<|z7<|zr Z (fun cq=>?_) (fun cq=>?_)
   ·refine ah<|ad Z<|z7<|zf<|zh (x:=.bool _) Z ?_
    rw[show cO f=false from fm hk2 (by rw[kp hget];exact Bool.eq_false_iff.2 (dA hj2 (by simpa [FW] using cq)))]
   ·refine ze<|bi<|aC Z Z<|aa Z<|z7 ?_
    exact ⟨j+1,iM,aW,aN,⟨hj2,bX hj2 hjall (by simpa [FW] using cq)⟩,by omega⟩
  ·have hjn:j=b.phis.length:=by simp at cj;omega
   subst hjn
   rw[qv] at hjall
   refine zz<|bi<|aC Z Z<|aa Z<|z7 ?_
   exact ⟨k+1,hZ,aW,aN,⟨hk2,dk hall (by rw[kp hget];exact hjall)⟩,by omega⟩
 ·have hkn:k=f.blocks.length:=by simp at ck;omega
  subst hkn
  refine zz<|ah<|ad Z<|z7<|zf<|zh (x:=.bool _) Z ?_
  rw[show cO f=true from hall]
theorem lY (f:ab) (hf:small f) (hL:aj E):aZ prog E 20 [.agg (bQ f)] (.int .i64 (if (aT f&&cO f)=true then 0 else 3)):=by
 refine zo func20 Z (by decide) Z<|ah<|yb (cs:=_) Z Z Z<|aw Z<|z7<|zb<|ah<|ac js jk Z Z<|zi (lq f hf hL) Z<|aD Z<|ai Z<|zk (s:=6) Z (fun ct=>?_) (fun ct=>?_)
 ·refine z6 Z Z ct<|z6 Z Z ct<|z6 Z Z ct<|ap Z ct Z<|z7<|yt Z Z<|ah<|aw Z<|z7<|zf<|zh (x:=.int _ _) Z ?_
  rw[show aT f=false by simpa using ct];rfl
 ·have ht:aT f=true:=by simpa using ct
  refine z8 Z Z ct<|ac js jk Z Z<|z8 Z Z ct<|zi (ul f (gL ht) hf) Z<|z8 Z Z ct<|aD Z<|al Z ct Z<|z7<|zr Z (fun cj=>?_) (fun cj=>?_)
  ·refine ah<|aw Z<|z7<|zf<|zh (x:=.int _ _) Z ?_
   rw[show cO f=false by simpa using cj];simp
  ·refine ze<|ah<|aw Z<|z7<|zf<|zh (x:=.int _ _) Z ?_
   rw[ht,show cO f=true by simpa using cj];rfl
end
section
open Go.Proofs.Tryz
section
variable {S:Int→List Int} {at_:Int→Int} {V:List Int} {N:Int→Int}
end
section
variable {S:Int→List Int} {at_ V:List Int} {preds:Int→List Int} {n:Nat}
end
section
variable {E:Int→List Int} {n:Nat}
end
end
section
open Go.Proofs.Tryz
open Go.Proofs
variable {E:World}
set_option maxRecDepth 20000
end
section
open Go.Proofs.Tryz
open Go.Proofs
variable {E:World}
set_option maxRecDepth 20000
end
section
open Go.Proofs.Tryz
section
variable {E:World} {P:Program} {env:aO} {O O' O'':OL}
theorem aX.knowIC {j off i m:Nat} {T T':TypeId} {cs:List AV} {l:List Int} (hO:dv O i (.grow 1 T (cI l)) O') (hP:gB O' j (.cells T' cs) (.cells T' (cs.set off (.fro 1 (l.map fun x=>[.int .i64 x])))) O'') (hc:cs[off]?=some (.own i m)) (hm:l.length=m):aX E env O env O'':=
 aX.knowC (rows:=l.map fun x=>[.int .i64 x]) (by rw[nR];exact hO) hP hc (fun r hr=>by obtain ⟨_,_,rfl⟩:=List.mem_map.1 hr;rfl) (by decide) (by rw[qx];exact hm)
variable {d ty:Nat} {pos:String} {af:Array Edge} {x y z:Operand} {t u e T:TypeId}
end
end
section
open Go.Proofs.Tryz
open Go.Proofs
variable {E:World}
set_option maxRecDepth 20000
section
variable {S:Int→List Int} {n:Nat} (hG:g6 S n)
include hG
end
end
section
open Go.Proofs.Tryz
open Go.Proofs
variable {E:World}
set_option maxRecDepth 20000
section
variable {S:Int→List Int} {n:Nat} (hG:g6 S n)
include hG
end
end
section
open Go.Proofs.Tryz
open Go.Proofs Go.Lib Go.Shelf Go.RowKit
variable {E:World}
set_option maxRecDepth 20000
end
section
open Go.Proofs.Tryz
open Go.Proofs Go.Lib Go.Shelf Go.RowKit
variable {E:World}
set_option maxRecDepth 20000
theorem small.evs {f:ab} (hf:small f) {k:Nat} (hk:k≤f.blocks.length):(d8 f k).length≤2000000:=by
 have h1:=tC (m:=2000) (fun b hb=>by have:=hf.2.2.2.2 b hb;have h2:=this.2.1;have h3:=this.2.2.1;omega) k hk
 have:=hf.2.2.1
 omega
end
section
open Go.Proofs.Tryz
open Go.Proofs Go.Lib Go.Shelf Go.RowKit
variable {E:World}
set_option maxRecDepth 20000
theorem kU {f:ab} (h:aT f=true):bA f:=by
 unfold aT at h
 rw[w6,dS] at h
 exact w9 h.1
end
section
open Go.Proofs.Tryz
open Go.Proofs Go.Lib Go.Shelf Go.RowKit
variable {E:World}
set_option maxRecDepth 20000
end
section
open Go.Proofs.Tryz
open Go.Proofs Go.Lib Go.Shelf Go.RowKit
variable {E:World}
set_option maxRecDepth 20000
theorem fe (t:cC) (b:Int):b∈aU t↔(t.kind=0∧t.to0=b)∨(t.kind=1∧(t.to0=b∨t.to1=b)):=by
 unfold aU
 by_cases h0:t.kind=0
 ·rw[if_pos h0];simp[h0];exact eq_comm
 ·rw[if_neg h0]
  by_cases h1:t.kind=1
  ·rw[if_pos h1]
   by_cases h2:t.to0=t.to1
   ·rw[if_pos h2];simp[h1,h2];exact eq_comm
   ·rw[if_neg h2];simp[h1]
    constructor
    ·rintro (h|h);exact .inl h.symm;exact .inr h.symm
    ·rintro (h|h);exact .inl h.symm;exact .inr h.symm
  ·rw[if_neg h1];simp[h0,h1]
theorem lu (f:ab) (hn:f.blocks.length≤1000) (a b:Int) (h0:0≤a) (ha:a<f.blocks.length):aZ prog E 44 [.agg (bQ f),.int .i64 a,.int .i64 b] (.bool (decide (b∈au f a))):=by
 obtain ⟨c,hc⟩:∃c,f.blocks[a.toNat]'(by omega)=c:=⟨_,rfl⟩
 have hget:f.blocks[a.toNat]?=some c:=by rw[qq (by omega),hc]
 have hE:au f a=aU c.term:=by rw[k7 h0 (by omega),hc]
 rw[hE]
 refine zo func44 Z (by decide) Z<|ah<|yb (cs:=_) Z Z Z<|ad Z<|z7<|ah<|aq ji Z Z0 Z Z<|aM Z6 Z<|aa Z<|za (cH a.toNat jl jv Z Z (by omega) hget)<|aq jh Z Z4 Z Z<|ac Yo Z4 Z Z<|zy (cs:=[.int .i64 0,.int .i64 0,.int .i64 0,.int .i64 0]) zeroValue58 Z Z<|fun i7=>zt Z4 Z Z Z Z Z Z .head Z<|zx (yo (t:=7) Z .head)<|z7<|ah<|aq jg Z Zn Z Z<|aE Zs Z<|ax Z Z<|ai Z<|zk (s:=17) Z (fun c1=>?_) (fun c1=>?_)
 ·refine z8 Z Z c1<|aq jg Z Z2 Z Z<|z8 Z Z c1<|za (yw (j:=0) ju je Z Z Z (by decide) Z)<|z8 Z Z c1<|aE jj Z<|z8 Z Z c1<|aa Z<|z8 Z Z c1<|ax Z Z<|ap Z c1 Z<|ai Z<|zk (s:=24) Z (fun c2=>?_) (fun c2=>?_)
  ·refine z6 Z Z c2<|z6 Z Z c2<|z6 Z Z c2<|z6 Z Z c2<|zd Z Z<|zd Z Z<|zd Z Z<|zd Z Z<|zd Z Z<|zd Z Z<|zd Z Z<|zd Z Z<|zd Z Z<|zd Z Z<|zd Z Z<|zd Z Z<|z6 Z Z c2<|ap Z c2 Z<|ad Z<|z7<|zf<|zh (x:=.bool _) Z<|congrArg AV.bool ?_;rw[qz];simp only[wa,fe];simp_all
  ·refine z8 Z Z c2<|aq jg Z Zn Z Z<|z8 Z Z c2<|aE Zs Z<|z8 Z Z c2<|ax Z Z<|z8 Z Z c2<|ai Z<|zk (s:=28) Z (fun c3=>?_) (fun c3=>?_)
   ·refine z8 Z Z c3<|aq jg Z Z2 Z Z<|z8 Z Z c3<|za (yw (j:=0) ju je Z Z Z (by decide) Z)<|z8 Z Z c3<|aE jj Z<|z8 Z Z c3<|aa Z<|z8 Z Z c3<|ax Z Z<|z8 Z Z c3<|ai Z<|zk (s:=34) Z (fun c4=>?_) (fun c4=>?_)
    ·refine z6 Z Z c4<|z6 Z Z c4<|z6 Z Z c4<|z6 Z Z c4<|z6 Z Z c4<|z8 Z Z c3<|ap Z c4 Z<|z8 Z Z c2<|ap Z c3 Z<|al Z c2 Z<|ad Z<|z7<|zf<|zh (x:=.bool _) Z<|congrArg AV.bool ?_;rw[qz];simp only[wa,fe];simp_all
    ·refine z8 Z Z c4<|aq jg Z Z2 Z Z<|z8 Z Z c4<|za (yw (j:=1) ju je Z Z Z (by decide) Z)<|z8 Z Z c4<|aE jj Z<|z8 Z Z c4<|aa Z<|z8 Z Z c4<|ax Z Z<|z8 Z Z c3<|al Z c4 Z<|z8 Z Z c2<|ap Z c3 Z<|al Z c2 Z<|ad Z<|z7<|zf<|zh (x:=.bool _) Z<|congrArg AV.bool ?_;rw[qz];simp only[wa,fe];simp_all
   ·refine z6 Z Z c3<|z6 Z Z c3<|z6 Z Z c3<|z6 Z Z c3<|z6 Z Z c3<|z6 Z Z c3<|zd Z Z<|zd Z Z<|zd Z Z<|zd Z Z<|zd Z Z<|z6 Z Z c3<|z8 Z Z c2<|al Z c3 Z<|al Z c2 Z<|ad Z<|z7<|zf<|zh (x:=.bool _) Z<|congrArg AV.bool ?_;rw[qz];simp only[wa,fe];simp_all
 ·refine z6 Z Z c1<|z6 Z Z c1<|z6 Z Z c1<|z6 Z Z c1<|z6 Z Z c1<|al Z c1 Z<|ai Z<|z8 Z Z Z<|aq jg Z Zn Z Z<|z8 Z Z Z<|aE Zs Z<|z8 Z Z Z<|ax Z Z<|z8 Z Z Z<|ai Z<|zk (s:=28) Z (fun c5=>?_) (fun c5=>?_)
  ·refine z8 Z Z c5<|aq jg Z Z2 Z Z<|z8 Z Z c5<|za (yw (j:=0) ju je Z Z Z (by decide) Z)<|z8 Z Z c5<|aE jj Z<|z8 Z Z c5<|aa Z<|z8 Z Z c5<|ax Z Z<|z8 Z Z c5<|ai Z<|zk (s:=34) Z (fun c6=>?_) (fun c6=>?_)
   ·refine z6 Z Z c6<|z6 Z Z c6<|z6 Z Z c6<|z6 Z Z c6<|z6 Z Z c6<|z8 Z Z c5<|ap Z c6 Z<|z8 Z Z Z<|ap Z c5 Z<|al Z Z Z<|ad Z<|z7<|zf<|zh (x:=.bool _) Z<|congrArg AV.bool ?_;rw[qz];simp only[wa,fe];simp_all
   ·refine z8 Z Z c6<|aq jg Z Z2 Z Z<|z8 Z Z c6<|za (yw (j:=1) ju je Z Z Z (by decide) Z)<|z8 Z Z c6<|aE jj Z<|z8 Z Z c6<|aa Z<|z8 Z Z c6<|ax Z Z<|z8 Z Z c5<|al Z c6 Z<|z8 Z Z Z<|ap Z c5 Z<|al Z Z Z<|ad Z<|z7<|zf<|zh (x:=.bool _) Z<|congrArg AV.bool ?_;rw[qz];simp only[wa,fe];simp_all
  ·refine z6 Z Z c5<|z6 Z Z c5<|z6 Z Z c5<|z6 Z Z c5<|z6 Z Z c5<|z6 Z Z c5<|zd Z Z<|zd Z Z<|zd Z Z<|zd Z Z<|zd Z Z<|z6 Z Z c5<|z8 Z Z Z<|al Z c5 Z<|al Z Z Z<|ad Z<|z7<|zf<|zh (x:=.bool _) Z<|congrArg AV.bool ?_;rw[qz];simp only[wa,fe];simp_all
theorem GB {a shut x:Int} {out:List Bool} {y:Nat} (hx:vM a out shut x) (h0:0≤x) (hy:y<out.length):vM a (out.set y true) shut x:=by
 refine ⟨hx.1,?_⟩
 rcases hx.2 with h|h
 ·exact .inl h
 ·right
  unfold gb at h ⊢
  rw[List.getElem?_set]
  by_cases e:y=x.toNat
  ·rw[if_pos e,if_pos (by omega)];rfl
  ·rw[if_neg e];exact h
set_option maxHeartbeats 4000000 in
theorem Er (f:ab) (hE:br f) (hn:f.blocks.length≤1000) (a shut:Int) (h0:0≤a) (ha:a<f.blocks.length):bY prog E 69 [.agg (bQ f),.int .i64 a,.int .i64 shut] []
  fun x O=>∃i:Nat,x=.own i f.blocks.length∧O=[(i,.grow 1 4 (cB (j6 (au f) f.blocks.length a shut)))]:=by
 have hG:=hE.grph
 obtain ⟨n,hnn⟩:∃n,f.blocks.length=n:=⟨_,rfl⟩
 rw[hnn] at hG hn ha ⊢
 refine zo func69 Z (by decide) Z<|ah<|yb (cs:=_) Z Z Z<|za (rv Z)<|z7<|ah<|aq ji Z Z0 Z Z<|aM Z6 Z<|ae jl Z<|aw Z<|z7<|ah<|aa Z<|ao.makeB (m:=n) jn Y2 Z Z Z Z Z (by omega) (by omega) (by show (1:Int)*_≤_;omega) (by omega)<|fun i16=>za (ef Z)<|z7<|zb<|ah<|ad Z<|z7<|zg<|y7 (γ:=List Bool × Bool) [1,2,3,7,8] (fun g=>[(9,.bool g.2)]) (fun g=>[(i16,.grow 1 4 (cB g.1))]) (fun g=>FrS (au f) a shut n g.1∧(g.2=false→Cw (au f) a shut g.1 n)) (fun g=>2*lm g.1+(if g.2=true then 1 else 0)) (List.replicate n false,true) aW aN (⟨FrS.begin _ _ _ _,fun h=>by cases h⟩) ?_
 rintro ⟨o0,again⟩ ⟨hS0,hfin⟩
 try dsimp only at *
 refine zb<|ah<|ai Z<|z7<|zr Z (fun ca=>?_) (fun ca=>?_)
 ·have ca:again=true:=by simpa using ca
  subst ca
  refine ze<|zg<|ah<|ad Z<|z7<|ah<|aa Z<|aa Z<|z7<|zg<|y7 (γ:=Nat × List Bool × Bool) [1,2,3,7,8,18] (fun g=>[(19,.int .i64 g.1),(9,.bool g.2.2)]) (fun g=>[(i16,.grow 1 4 (cB g.2.1))]) (fun g=>g.1≤n∧Kh (au f) a shut n o0 g.2.1 g.2.2∧(g.2.2=false→Cw (au f) a shut g.2.1 g.1)) (fun g=>n - g.1) (0,o0,false) eE aN (⟨qt _,⟨hS0,Nat.le_refl _,fun h=>(by cases h),fun _=>Z⟩,fun _ x hx=>by omega⟩) ?_
  rintro ⟨x,out,ag⟩ ⟨hx,hR,hcl⟩
  try dsimp only at *
  have hol:=hR.len
  refine ah<|ay Z Z<|z7<|zb<|zm Z (fun cx=>?_) (fun cx=>?_)
  ·have hx2:x<n:=by omega
   have hgx:out[x]?=some (gb out (x:Int)):=ky (by omega)
   refine ze<|zb<|zg<|ah<|aa Z<|aw Z<|z7<|zb<|zb<|yq (γ:=Bool) [1,2,3,7,8,9,10,18,19] (fun u=>[(36,.bool u)]) (fun u=>[(i16,.grow 1 4 (cB out))]) (fun u=>u=!decide (vM a out shut x)) ?_ (fun _ _ h=>h) ?_
   ·refine bi<|aa Z<|aa Z<|ax Z Z<|ai Z<|zk (s:=25) Z (fun c7=>?_) (fun c7=>?_)
    ·refine z6 Z Z c7<|z6 Z Z c7<|z6 Z Z c7<|z6 Z Z c7<|zd Z Z<|zd Z Z<|zd Z Z<|zd Z Z<|zd Z Z<|z6 Z Z c7<|ap Z c7 Z<|z7 ?_
     exact ⟨_,tF,aW,aN,by simp_all[vM]⟩
    ·refine z8 Z Z c7<|aa Z<|z8 Z Z c7<|aa Z<|z8 Z Z c7<|za (yn Z Z)<|z8 Z Z c7<|ai Z<|zk (s:=29) Z (fun c8=>?_) (fun c8=>?_)
     ·refine z8 Z Z c8<|za (kP Z)<|z8 Z Z c8<|aa Z<|z8 Z Z c8<|za (yj (j:=x) jn Z3 Z Z Z ⟨_,.head⟩ (by first|rfl|(simp[aJ,bt];done)|(simp[aJ,bt];omega)) hx2)<|z8 Z Z c8<|za (Gv.loadB (j:=x) Yc Z ⟨_,.head⟩ hgx)<|z8 Z Z c8<|aD Z<|z8 Z Z c7<|ap Z c8 Z<|al Z c7 Z<|z7 ?_
      exact ⟨_,tF,aW,aN,by simp_all[vM]⟩
     ·refine z6 Z Z c8<|z6 Z Z c8<|z6 Z Z c8<|z6 Z Z c8<|z6 Z Z c8<|z8 Z Z c7<|al Z c8 Z<|al Z c7 Z<|z7 ?_
      exact ⟨_,tF,aW,aN,by simp_all[vM]⟩
   ·rintro u hu
    subst hu
    refine zr Z (fun co=>?_) (fun co=>?_)
    ·have hno:¬vM a out shut x:=by simpa using co
     refine zz<|bi<|aC Z Z<|aa Z<|z7 ?_
     exact ⟨(x+1,out,ag),FX,eE,aN,⟨hx2,hR,fun h z hz hok=>by rcases Nat.lt_succ_iff_lt_or_eq.1 hz with h1|h1;exact hcl h z h1 hok;exact absurd (h1▸hok) hno⟩,by dsimp only;omega⟩
    ·have hok:vM a out shut x:=by simpa using co
     refine ze<|ah<|aa Z<|aa Z<|z7<|zg<|y7 (γ:=Nat × List Bool × Bool) [1,2,3,7,8,10,18,19,37] (fun g=>[(38,.int .i64 g.1),(9,.bool g.2.2)]) (fun g=>[(i16,.grow 1 4 (cB g.2.1))]) (fun g=>g.1≤n∧Kh (au f) a shut n o0 g.2.1 g.2.2∧vM a g.2.1 shut x∧(g.2.2=false→Cw (au f) a shut g.2.1 x∧Kg (au f) a shut g.2.1 x g.1)) (fun g=>n - g.1) (0,out,ag) eE aN (⟨qt _,hR,hok,fun h=>⟨hcl h,fun _ y hy=>by omega⟩⟩) ?_
     rintro ⟨y,out,ag⟩ ⟨hy,hR,hok,hcl⟩
     try dsimp only at *
     have hol:=hR.len
     refine ah<|ay Z Z<|z7<|zb<|zm Z (fun cy=>?_) (fun cy=>?_)
     ·have hy2:y<n:=by omega
      have hgy:out[y]?=some (gb out (y:Int)):=ky (by omega)
      have hstep:(ag=false→(y:Int)∈au f x→(y:Int)≠shut→gb out y=true)→(ag=false→Cw (au f) a shut out x∧Kg (au f) a shut out x (y+1)):=fun h1 h2=>⟨(hcl h2).1,fun ho z hz he hs=>by
       rcases Nat.lt_succ_iff_lt_or_eq.1 hz with h3|h3
       ·exact (hcl h2).2 ho z h3 he hs
       ·subst h3;exact h1 h2 he hs⟩
      refine ze<|zb<|zg<|ah<|aa Z<|aw Z<|z7<|ah<|aa Z<|aa Z<|za (yn Z Z)<|ai Z<|zk (s:=44) Z (fun c1=>?_) (fun c1=>?_)
      ·have d1:(y:Int)≠shut:=by simpa using c1
       refine z8 Z Z c1<|za (kP Z)<|z8 Z Z c1<|aa Z<|z8 Z Z c1<|za (yj (j:=y) jn Z3 Z Z Z ⟨_,.head⟩ (by first|rfl|(simp[aJ,bt];done)|(simp[aJ,bt];omega)) hy2)<|z8 Z Z c1<|za (Gv.loadB (j:=y) Yc Z ⟨_,.head⟩ hgy)<|z8 Z Z c1<|aD Z<|ap Z c1 Z<|ai Z<|zk (s:=51) Z (fun c2=>?_) (fun c2=>?_)
       ·have d2:gb out (y:Int)=false:=by simpa using c2
        refine z8 Z Z c2<|ac js jk Z Z<|z8 Z Z c2<|aa Z<|z8 Z Z c2<|aa Z<|z8 Z Z c2<|zi (lu f (by omega) (x:Int) (y:Int) (by omega) (by omega)) Z<|ap Z c2 Z<|z7<|zr Z (fun c3=>?_) (fun c3=>?_)
        ·have d3:(y:Int)∈au f x:=by simpa using c3
         refine ah<|za (kP Z)<|aa Z<|za (yj (j:=y) jn Z3 Z Z Z ⟨_,.head⟩ (by first|rfl|(simp[aJ,bt];done)|(simp[aJ,bt];omega)) hy2)<|qe (j:=y) Z3 Z Z .head (by first|omega|(simp;omega))<|z7<|bi<|ad Z<|z7<|bi<|aC Z Z<|aa Z<|z7 ?_
         exact ⟨(y+1,out.set y true,true),tF,eE,aN,⟨hy2,hR.hit hok d3 d1 hy2 d2,GB hok (by omega) (by omega),fun h=>by cases h⟩,by dsimp only;omega⟩
        ·have d3:¬(y:Int)∈au f x:=by simpa using c3
         refine ze<|bi<|aC Z Z<|aa Z<|z7 ?_
         exact ⟨(y+1,out,ag),tF,eE,aN,⟨hy2,hR,hok,hstep fun _ h _=>absurd h d3⟩,by dsimp only;omega⟩
       ·have d2:gb out (y:Int)=true:=by simpa using c2
        refine z6 Z Z c2<|z6 Z Z c2<|z6 Z Z c2<|z6 Z Z c2<|al Z c2 Z<|z7<|yp Z Z<|ze<|bi<|aC Z Z<|aa Z<|z7 ?_
        exact ⟨(y+1,out,ag),tF,eE,aN,⟨hy2,hR,hok,hstep fun _ _ _=>d2⟩,by dsimp only;omega⟩
      ·have d1:(y:Int)=shut:=by simpa using c1
       refine z6 Z Z c1<|z6 Z Z c1<|z6 Z Z c1<|z6 Z Z c1<|z6 Z Z c1<|al Z c1 Z<|ai Z<|z6 Z Z Z<|z6 Z Z Z<|z6 Z Z Z<|z6 Z Z Z<|al Z Z Z<|z7<|yp Z Z<|ze<|bi<|aC Z Z<|aa Z<|z7 ?_
       exact ⟨(y+1,out,ag),tF,eE,aN,⟨hy2,hR,hok,hstep fun _ _ h=>absurd d1 h⟩,by dsimp only;omega⟩
     ·have hyn:y=n:=by omega
      refine zz<|bi<|aC Z Z<|aa Z<|z7 ?_
      exact ⟨(x+1,out,ag),FX,eE,aN,⟨hx2,hR,fun h z hz ho=>by rcases Nat.lt_succ_iff_lt_or_eq.1 hz with h1|h1;exact (hcl h).1 z h1 ho;subst h1;exact fun y2 he hs=>(by by_cases hlt:y2<n;exact (hcl h).2 ho y2 (by omega) he hs;exact absurd (hG.rng z (by omega) (by omega) _ he).2 (by omega))⟩,by dsimp only;omega⟩
  ·have hxn:x=n:=by omega
   subst hxn
   refine zz ?_
   exact ⟨(out,ag),vv,aW,aN,⟨hR.toFrS,hcl⟩,by dsimp only;have h1:=hR.less;have h2:=hR.more;cases ag;simp;omega;have:=h2 rfl;simp;omega⟩
 ·have ca:again=false:=by simpa using ca
  rw[hS0.eq hG ⟨h0,ha⟩ (hfin ca)]
  refine zz<|ah<|za (kP Z)<|za (ef Z)<|z7<|zf<|zh (x:=.own _ _) Z ?_
  exact ⟨i16,rfl,rfl⟩
theorem lZ (f:ab) (hE:br f) (hn:f.blocks.length≤1000) (shut:Int):aZ prog E 45 [.agg (bQ f),.int .i64 shut] (.fro 1 ((mD (au f) f.blocks.length shut).map Km)):=by
 have hpos:=hE.grph.npos
 refine zo func45 Z (by decide) Z<|ah<|yb (cs:=_) Z Z Z<|za (rv Z)<|z7<|ah<|ac js jk Z Z<|aa Z<|yu Z (zu (.rest _)) (Er f hE hn 0 shut (Int.le_refl _) (by omega)) ?_
 rintro r8 O8 ⟨i8,rfl,rfl⟩
 refine za (ef Z)<|z7<|ah<|za (kP Z)<|aa Z<|za (yn Z Z)<|za (yj (j:=0) jn Z3 Z Z Z ⟨_,.head⟩ (by rw[bt,kz]) hpos)<|qe (j:=0) Z3 Z Z .head (by rw[kz];exact hpos)<|z7<|ah<|za (kP Z)<|za (ef Z)<|z7 ?_
 rw[show (!decide (shut=0))=decide (shut≠0) by simp,Cy]
 refine yc (aX.knowB (t:=4) Z .head (o5 _ _ _))<|zf<|zh (x:=.fro _ _) Z ?_
 rfl
end
section
open Go.Proofs.Tryz
open Go.Proofs Go.Lib Go.Shelf Go.RowKit
variable {E:World}
set_option maxRecDepth 20000
set_option maxHeartbeats 4000000 in
theorem vV (f:ab) (hf:small f) (v:Nat):aZ prog E 72 [.agg (bQ f),.int .i64 v] (.tup [.int .i64 (bx f v).1,.int .i64 (bx f v).2]):=by
 have hn:=hf.2.2.1
 refine zo func72 Z (by decide) Z<|ah<|yb (cs:=_) Z Z Z<|aw Z<|aw Z<|z7<|zb<|ah<|aq ji Z Z0 Z Z<|aM Z6 Z<|ae jl Z<|aa Z<|z7<|zg<|y7 (γ:=Nat) [1,13,14] (fun k=>[(15,.int .i64 k)]) (fun k=>[]) (fun k=>k≤f.blocks.length∧jH v (d8 f k)=0) (fun k=>f.blocks.length - k) 0 aW aN (⟨qt _,Z⟩) ?_
 rintro k ⟨hk,hc⟩
 refine ah<|ay Z Z<|z7<|zb<|zm Z (fun ck=>?_) (fun ck=>?_)
 ·have hk2:k<f.blocks.length:=by simp at ck;omega
  obtain ⟨b,hbk⟩:∃b,f.blocks[k]=b:=⟨_,rfl⟩
  have hget:f.blocks[k]?=some b:=by rw[qq hk2,hbk]
  have hmem:b∈f.blocks:=hbk▸qu hk2
  obtain ⟨hb0,hb1,hb2,hb3,hb4⟩:=hf.2.2.2.2 b hmem
  refine ze<|zb<|zg<|ah<|aa Z<|za (cH k jl jv Z Z Z hget)<|ac Zu jv Z Z<|zy (cs:=[.str ⟨#[]⟩,.raw (.slice none 0 0),.raw (.slice none 0 0),.int .i64 0,.int .i64 0,.int .i64 0,.int .i64 0]) Zc Z Z<|fun i7=>aw Z<|zt jv Z Z Z Z Z Z .head Z<|zx (yo (t:=7) Z .head)<|z7<|zb<|ah<|aq jh Z Zf Z Z<|aM Zv Z<|ae jx Z<|aa Z<|z7<|zg<|y7 (γ:=Nat) [1,6,7,13,14,15,21,22] (fun j=>[(23,.int .i64 j)]) (fun j=>[]) (fun j=>j≤b.phis.length∧jH v (d8 f k++eD k (b.phis.take j))=0) (fun j=>b.phis.length - j) 0 aW aN (⟨qt _,by rw[show eD k (b.phis.take 0)=[] from rfl,List.append_nil];exact hc⟩) ?_
  rintro j ⟨hj,hcj⟩
  refine ah<|ay Z Z<|z7<|zb<|zm Z (fun cj=>?_) (fun cj=>?_)
  ·have hj2:j<b.phis.length:=by simp at cj;omega
   have hpre:=Gs hk2 hbk hj2
   have hsc:=kC v (d8 f k++eD k (b.phis.take j)) b.phis[j].dst ((k:Int),(-1:Int))
   rw[qs,←my k hj2] at hsc
   refine ze<|zb<|zg<|ah<|za (cH j jx Z1 Z Z Z (qq hj2))<|ac Y0 Z1 Z Z<|zy (cs:=[.int .i64 0,.raw (.slice none 0 0),.raw (.slice none 0 0)]) Ze Z Z<|fun i9=>zt Z1 Z Z Z Z Z Z .head Z<|zx (yo (t:=9) Z .head)<|z7<|ah<|aq jq Z je Z Z<|aE jj Z<|aa Z<|ax Z Z<|z7<|zr Z (fun cd=>?_) (fun cd=>?_)
   ·have hd:b.phis[j].dst=(v:Int):=by simpa using cd
    rw[hd] at hpre
    refine ah<|aa Z<|aw Z<|aw Z<|z7<|zf<|dh.t2 (x:=.int _ _) (y:=.int _ _) Z Z ?_
    rw[rE hpre hcj]
   ·have hd:¬b.phis[j].dst=(v:Int):=by simpa using cd
    refine ze<|bi<|aC Z Z<|aa Z<|z7 ?_
    exact ⟨j+1,vw,aW,aN,⟨hj2,by rw[hsc,if_neg hd,hcj]⟩,by omega⟩
  ·have hjn:j=b.phis.length:=by simp at cj;omega
   subst hjn
   rw[qv] at hcj
   refine zz<|ah<|aq jh Z Zi Z Z<|aM Zy Z<|ae jz Z<|aa Z<|z7<|zg<|y7 (γ:=Nat) [1,6,13,14,15,34,35] (fun j=>[(36,.int .i64 j)]) (fun j=>[]) (fun j=>j≤b.insts.length∧jH v (d8 f k++eD k b.phis++iL k (b.insts.take j))=0) (fun j=>b.insts.length - j) 0 aW aN (⟨qt _,by rw[show iL k (b.insts.take 0)=[] from rfl,List.append_nil];exact hcj⟩) ?_
   rintro j ⟨hj,hci⟩
   refine ah<|ay Z Z<|z7<|zb<|zm Z (fun cj=>?_) (fun cj=>?_)
   ·have hj2:j<b.insts.length:=by simp at cj;omega
    have hev:=kq k hj2
    refine ze<|zb<|zg<|ah<|aa Z<|za (cH j jz Z5 Z Z Z (qq hj2))<|ac Yd Z5 Z Z<|zy (cs:=[.int .i64 0,.int .i64 0,.raw (.slice none 0 0),.int .i64 0]) Y3 Z Z<|fun i11=>aw Z<|zt Z5 Z Z Z Z Z Z .head Z<|zx (yo (t:=11) Z .head)<|z7<|ah<|aq jp Z je Z Z<|aE jj Z<|aa Z<|ax Z Z<|z7<|zr Z (fun cd=>?_) (fun cd=>?_)
    ·have hd:b.insts[j].dst=(v:Int):=by simpa using cd
     have hpre:=Ee hk2 hbk hj2 (by omega)
     rw[hd] at hpre
     refine ah<|aa Z<|aa Z<|aw Z<|aw Z<|z7<|zf<|dh.t2 (x:=.int _ _) (y:=.int _ _) Z Z ?_
     rw[rE hpre hci]
    ·have hd:¬b.insts[j].dst=(v:Int):=by simpa using cd
     have hsc:jH v (d8 f k++eD k b.phis++iL k (b.insts.take (j+1)))=0:=by
      rw[hev]
      split
      ·rw[←qs,kC,if_neg hd,hci]
      ·rw[List.append_nil];exact hci
     refine ze<|bi<|aC Z Z<|aa Z<|z7 ?_
     exact ⟨j+1,iM,aW,aN,⟨hj2,hsc⟩,by omega⟩
   ·have hjn:j=b.insts.length:=by simp at cj;omega
    subst hjn
    rw[qv] at hci
    refine zz<|bi<|aC Z Z<|aa Z<|z7 ?_
    exact ⟨k+1,hZ,aW,aN,⟨hk2,by rw[fP hk2,hbk,qI,←qs];exact hci⟩,by omega⟩
 ·have hkn:k=f.blocks.length:=by simp at ck;omega
  subst hkn
  refine zz<|ah<|aw Z<|aw Z<|z7<|zf<|dh.t2 (x:=.int _ _) (y:=.int _ _) Z Z ?_
  rw[vO hc]
set_option maxHeartbeats 4000000 in
theorem nB (f:ab) (hf:small f) (v:Nat):aZ prog E 50 [.agg (bQ f),.int .i64 v] (.int .i64 (bq f v).length):=by
 have hn:=hf.2.2.1
 refine zo func50 Z (by decide) Z<|ah<|yb (cs:=_) Z Z Z<|aw Z<|z7<|ah<|aw Z<|z7<|zb<|ah<|aq ji Z Z0 Z Z<|aM Z6 Z<|ae jl Z<|aa Z<|z7<|zg<|y7 (γ:=Nat) [1,13,14] (fun k=>[(15,.int .i64 k),(5,.int .i64 (jH v (d8 f k)))]) (fun k=>[]) (fun k=>k≤f.blocks.length) (fun k=>f.blocks.length - k) 0 eE aN (qt _) ?_
 rintro k hk
 refine ah<|ay Z Z<|z7<|zb<|zm Z (fun ck=>?_) (fun ck=>?_)
 ·have hk2:k<f.blocks.length:=by simp at ck;omega
  obtain ⟨b,hbk⟩:∃b,f.blocks[k]=b:=⟨_,rfl⟩
  have hget:f.blocks[k]?=some b:=by rw[qq hk2,hbk]
  have hmem:b∈f.blocks:=hbk▸qu hk2
  obtain ⟨hb0,hb1,hb2,hb3,hb4⟩:=hf.2.2.2.2 b hmem
  have hel:=hf.evs hk
  refine ze<|zb<|zg<|ah<|za (cH k jl jv Z Z Z hget)<|ac Zu jv Z Z<|zy (cs:=[.str ⟨#[]⟩,.raw (.slice none 0 0),.raw (.slice none 0 0),.int .i64 0,.int .i64 0,.int .i64 0,.int .i64 0]) Zc Z Z<|fun i7=>zt jv Z Z Z Z Z Z .head Z<|zx (yo (t:=7) Z .head)<|z7<|zb<|ah<|aq jh Z Zf Z Z<|aM Zv Z<|ae jx Z<|aa Z<|z7<|zg<|y7 (γ:=Nat) [1,7,13,14,15,20,21] (fun j=>[(22,.int .i64 j),(5,.int .i64 (jH v (d8 f k++eD k (b.phis.take j))))]) (fun j=>[]) (fun j=>j≤b.phis.length) (fun j=>b.phis.length - j) 0 ⟨Z,(by rw[show eD k (b.phis.take 0)=[] from rfl,List.append_nil];rfl),trivial⟩ aN (qt _) ?_
  rintro j hj
  refine ah<|ay Z Z<|z7<|zb<|zm Z (fun cj=>?_) (fun cj=>?_)
  ·have hj2:j<b.phis.length:=by simp at cj;omega
   have hsc:=kC v (d8 f k++eD k (b.phis.take j)) b.phis[j].dst ((k:Int),(-1:Int))
   rw[qs,←my k hj2] at hsc
   have hcl:jH v (d8 f k++eD k (b.phis.take j))≤2001000:=by
    have h1:=xv v (d8 f k++eD k (b.phis.take j))
    have h2:(eD k (b.phis.take j)).length≤1000:=by unfold eD;rw[qx,w3];omega
    rw[qw] at h1;omega
   refine ze<|zb<|zg<|ah<|za (cH j jx Z1 Z Z Z (qq hj2))<|ac Y0 Z1 Z Z<|zy (cs:=[.int .i64 0,.raw (.slice none 0 0),.raw (.slice none 0 0)]) Ze Z Z<|fun i9=>zt Z1 Z Z Z Z Z Z .head Z<|zx (yo (t:=9) Z .head)<|z7<|ah<|aq jq Z je Z Z<|aE jj Z<|aa Z<|ax Z Z<|z7<|zr Z (fun cd=>?_) (fun cd=>?_)
   ·have hd:b.phis[j].dst=(v:Int):=by simpa using cd
    rw[if_pos hd] at hsc
    refine bi<|aa Z<|aC Z Z<|aw Z<|z7<|bi<|aC Z Z<|aa Z<|z7 ?_
    exact ⟨j+1,iM,⟨rfl,(by rw[hsc];rfl),trivial⟩,aN,hj2,by omega⟩
   ·have hd:¬b.phis[j].dst=(v:Int):=by simpa using cd
    rw[if_neg hd] at hsc
    refine ze<|bi<|aC Z Z<|aa Z<|z7 ?_
    exact ⟨j+1,iM,⟨rfl,(by rw[hsc];rfl),trivial⟩,aN,hj2,by omega⟩
  ·have hjn:j=b.phis.length:=by simp at cj;omega
   subst hjn
   rw[qv]
   refine zz<|ah<|aq jh Z Zi Z Z<|aM Zy Z<|ae jz Z<|aa Z<|z7<|zg<|y7 (γ:=Nat) [1,13,14,15,34,35] (fun j=>[(36,.int .i64 j),(5,.int .i64 (jH v (d8 f k++eD k b.phis++iL k (b.insts.take j))))]) (fun j=>[]) (fun j=>j≤b.insts.length) (fun j=>b.insts.length - j) 0 ⟨Z,(by rw[show iL k (b.insts.take 0)=[] from rfl,List.append_nil];rfl),trivial⟩ aN (qt _) ?_
   rintro j hj
   refine ah<|ay Z Z<|z7<|zb<|zm Z (fun cj=>?_) (fun cj=>?_)
   ·have hj2:j<b.insts.length:=by simp at cj;omega
    have hcl:jH v (d8 f k++eD k b.phis++iL k (b.insts.take j))≤2002000:=by
     have h1:=xv v (d8 f k++eD k b.phis++iL k (b.insts.take j))
     have h2:(eD k b.phis).length≤1000:=by unfold eD;rw[qx];omega
     have h3:=tB k (b.insts.take j)
     rw[w3] at h3
     rw[qw,qw] at h1;omega
    have hsc:jH v (d8 f k++eD k b.phis++iL k (b.insts.take (j+1)))=jH v (d8 f k++eD k b.phis++iL k (b.insts.take j))+if b.insts[j].dst=(v:Int) then 1 else 0:=by
     rw[kq k hj2]
     split
     ·rw[←qs,kC]
     ·rw[List.append_nil,if_neg (by omega)];rfl
    refine ze<|zb<|zg<|ah<|za (cH j jz Z5 Z Z Z (qq hj2))<|ac Yd Z5 Z Z<|zy (cs:=[.int .i64 0,.int .i64 0,.raw (.slice none 0 0),.int .i64 0]) Y3 Z Z<|fun i11=>zt Z5 Z Z Z Z Z Z .head Z<|zx (yo (t:=11) Z .head)<|z7<|ah<|aq jp Z je Z Z<|aE jj Z<|aa Z<|ax Z Z<|z7<|zr Z (fun cd=>?_) (fun cd=>?_)
    ·have hd:b.insts[j].dst=(v:Int):=by simpa using cd
     rw[if_pos hd] at hsc
     refine bi<|aa Z<|aC Z Z<|aw Z<|z7<|bi<|aC Z Z<|aa Z<|z7 ?_
     exact ⟨j+1,FX,⟨rfl,(by rw[hsc];rfl),trivial⟩,aN,hj2,by omega⟩
    ·have hd:¬b.insts[j].dst=(v:Int):=by simpa using cd
     rw[if_neg hd] at hsc
     refine ze<|bi<|aC Z Z<|aa Z<|z7 ?_
     exact ⟨j+1,FX,⟨rfl,(by rw[hsc];rfl),trivial⟩,aN,hj2,by omega⟩
   ·have hjn:j=b.insts.length:=by simp at cj;omega
    subst hjn
    rw[qv]
    refine zz<|bi<|aC Z Z<|aa Z<|z7 ?_
    exact ⟨k+1,hZ,⟨rfl,(by rw[fP hk2,hbk,qI,←qs];rfl),trivial⟩,aN,hk2,by omega⟩
 ·have hkn:k=f.blocks.length:=by simp at ck;omega
  subst hkn
  refine zz<|ah<|aa Z<|aw Z<|z7<|zf<|zh (x:=.int _ _) Z ?_
  rw[tW]
theorem qO (f:ab) (hE:br f) (hf:small f) (v:Nat) (b a:Int) (h0:0≤b) (hb:b<f.blocks.length):aZ prog E 51 [.agg (bQ f),.int .i64 v,.int .i64 b,.int .i64 a] (.bool (dL f (bx f v) b a)):=by
 have hn:=hf.2.2.1
 refine zo func51 Z (by decide) Z<|ah<|yb (cs:=_) Z Z Z<|ad Z<|z7<|ah<|ac js jk Z Z<|aa Z<|zi (vV f hf v) Z<|za (J9 Z)<|za (DT Z Z)<|za (DT Z Z)<|aw Z<|aw Z<|z7<|zb<|zg<|ah<|aa Z<|ay Z Z<|ad Z<|z7<|zm Z (fun c0=>?_) (fun c0=>?_)
 ·refine ah<|ad Z<|z7<|zf<|zh (x:=.bool _) Z ?_
  rw[dL,if_pos c0]
 ·refine ah<|aa Z<|aa Z<|ax Z Z<|ad Z<|z7<|zr Z (fun c1=>?_) (fun c1=>?_)
  ·have d1:(bx f v).1=b:=by simpa using c1
   refine ah<|aa Z<|aa Z<|ay Z Z<|ad Z<|z7<|zf<|zh (x:=.bool _) Z ?_
   rw[dL,if_neg c0,if_pos d1]
  ·have d1:¬(bx f v).1=b:=by simpa using c1
   have hg:=ln (E:=au f) (n:=f.blocks.length) (k:=b.toNat) (shut:=(bx f v).1) (by omega)
   rw[show ((b.toNat:Nat):Int)=b by omega] at hg
   refine ze<|ah<|ac js jk Z Z<|aa Z<|zi (lZ f hE hn (bx f v).1) Z<|aa Z<|za (cH b.toNat jn Z3 Z Z (by omega) hg)<|za (qg (c:=.bool _) Yc Z)<|aD Z<|ad Z<|z7<|zf<|zh (x:=.bool _) Z ?_
   rw[dL,if_neg c0,if_neg d1]
end
end Go.Proofs.YtjpnhkmfhlnpcaaGreatDoor
