/- Facts on a stack, read: has, further, Least, Follows. Of facts of nodes that there are, not great. -/
import Derived.Test.YtbbonnfjealmpaaGreatDoorZt
import Derived.Test.YtbbonnfjealmpaaGreatDoorZq
import Derived.Test.YtbbonnfjealmpaaGreatDoorZs
import Derived.Test.YtbbonnfjealmpaaGreatDoorZh
import Derived.Test.YtbbonnfjealmpaaGreatDoorZg
import Derived.Test.YtbbonnfjealmpaaGreatDoorZr
import Derived.Test.YtbbonnfjealmpaaGreatDoorZp
import Derived.Test.YtbbonnfjealmpaaGreatDoorZj
import Derived.Test.YtbbonnfjealmpaaGreatDoorChecked
set_option linter.unusedVariables false
set_option linter.unusedSimpArgs false
set_option linter.unusedSectionVars false
namespace Go.Proofs.YtbbonnfjealmpaaGreatDoor
section
open Go.Proofs.Tryz
open Go.Proofs
def sW (f:ab) (B:List aK) (b u:Int):Prop:=∃(j:Nat) (c:aK),gC (ah f) j b∧B[j]?=some c∧∃x∈c.insts,x.dst=u
structure KO (f:ab) (B:List aK) (i:Int) (c:aK):Prop where
 inj:∀(k k':Nat) (x x':aB),c.insts[k]?=some x→c.insts[k']?=some x'→x.dst=x'.dst→(f.vars.length:Int)≤x.dst→k=k'
 old:(c.insts.filter fun x:aB=>decide (x.dst<(f.vars.length:Int))).map (·.dst)=(aQ f i).insts.map (·.dst)
 use:∀(k:Nat) (x:aB),c.insts[k]?=some x→∀u∈x.args,gq f B i (c.insts.take k) u
 term:(aQ f i).term.kind≠0→gq f B i c.insts c.term.var
structure DX (f:ab) (W:tT) (done:List Int):Prop where
 zero:∀(k:Nat) (c:aK),W.blks[k]?=some c→(k:Int) ∉ done→c.insts=[]
 nd:∀b∈done,∀v:Int,0≤v→v<f.vars.length→(f.vars.length:Int)≤vi (fU W.ends b) v→sW f W.blks b (vi (fU W.ends b) v)
 cur:∀b∈done,∀v:Int,0≤v→v<f.vars.length→vi (fU W.ends b) v<f.vars.length→vi (fU W.ends b) v=v
 blk:∀b∈done,∃c,W.blks[b.toNat]?=some c∧KO f W.blks b c
 new:∀(k:Nat) (c:aK),W.blks[k]?=some c→∀x∈c.insts,(f.vars.length:Int)≤x.dst→x.dst<W.vars.length
 dis:∀(k k':Nat) (c c':aK),W.blks[k]?=some c→W.blks[k']?=some c'→∀x∈c.insts,∀x'∈c'.insts,x.dst=x'.dst→(f.vars.length:Int)≤x.dst→k=k'
theorem DX.first (f:ab):DX f (vN f) []:=by
 have z:∀{k:Nat} {c:aK},(vN f).blks[k]?=some c→c.insts=[]:=fun {k c} hc=>by
  have hc:(List.replicate _ yL)[k]?=some c:=hc
  rw[List.getElem?_replicate] at hc
  split at hc
  ·cases hc;rfl
  ·cases hc
 exact ⟨fun k c hc _=>z hc,fun b hb=>(by cases hb),fun b hb=>(by cases hb),fun b hb=>(by cases hb),fun k c hc x hx=>(by rw[z hc] at hx;cases hx),fun k k' c c' hc _ x hx=>(by rw[z hc] at hx;cases hx)⟩
section
variable {f:ab} {B C:List aK}
theorem nz.mono {i u:Int} (h:nz f B i u) (hs:∀(j:Nat) (c:aK),B[j]?=some c→c.insts≠[]→C[j]?=some c):nz f C i u:=by
 obtain ⟨j,c,h1,h2,h3,x,hx,e⟩:=h
 exact ⟨j,c,h1,h2,hs j c h3 (fun e=>by rw[e] at hx;cases hx),x,hx,e⟩
theorem sW.mono {i u:Int} (h:sW f B i u) (hs:∀(j:Nat) (c:aK),B[j]?=some c→c.insts≠[]→C[j]?=some c):sW f C i u:=by
 obtain ⟨j,c,h2,h3,x,hx,e⟩:=h
 exact ⟨j,c,h2,hs j c h3 (fun e=>by rw[e] at hx;cases hx),x,hx,e⟩
theorem gq.up {i u:Int} {L:List aB} (h:gq f B i L u) (hs:∀(j:Nat) (c:aK),B[j]?=some c→c.insts≠[]→C[j]?=some c):gq f C i L u:=by
 rcases h with ⟨h,h2⟩|h
 ·exact .inl ⟨h,h2.imp id fun k=>k.mono hs⟩
 ·exact .inr h
theorem KO.up {i:Int} {c:aK} (h:KO f B i c) (hs:∀(j:Nat) (c:aK),B[j]?=some c→c.insts≠[]→C[j]?=some c):KO f C i c:=
 ⟨h.inj,h.old,fun k x hx u hu=>(h.use k x hx u hu).up hs,fun hk=>(h.term hk).up hs⟩
end
section
variable {f:ab} (hR:bm f)
include hR
theorem bm.made_in {i:Int}:∀v q:Int,aD f v=(i,q)→0≤q→0≤i→∃z,(aQ f i).insts[q.toNat]?=some z∧z.dst=v:=fun v q hm hq hi=>by
 have h1:aD f v∈bp f v:=ku (by rw[hm];exact hi)
 rw[hm] at h1
 obtain ⟨j,b,hb,h2⟩:=eH.1 h1
 rcases f6.1 h2 with ⟨p,_,_,e⟩|⟨k,y,hy,hd,e⟩
 ·simp only[Prod.mk.injEq] at e;omega
 ·simp only[Prod.mk.injEq] at e
  rw[e.1,e.2,dD hb]
  exact ⟨y,hy,hd⟩
theorem ij.inss {B:List aK} {i:Int} {base:Nat} (hi:0≤i∧i<f.blocks.length):∀(l:List aB) (k:Nat) {p:f8},(aQ f i).insts.drop k=l→ij f B i base p ((aQ f i).insts.take k)→ij f B i base (l.foldl (fT f) p) (aQ f i).insts
 |[],k,p,hl,h=>by
  have:(aQ f i).insts.take k=(aQ f i).insts:=List.take_of_length_le (List.drop_eq_nil_iff.1 hl)
  rwa [this] at h
 |y::l,k,p,hl,h=>by
  have hk:(aQ f i).insts[k]?=some y:=by
   have:((aQ f i).insts.drop k)[0]?=some y:=by rw[hl];rfl
   rwa [List.getElem?_drop,Nat.add_zero] at this
  have hkl:=(List.getElem?_eq_some_iff.1 hk).1
  have hat:sE f i.toNat k y:=⟨aQ f i,eO hi.1 hi.2,hk⟩
  obtain ⟨hF,_⟩:=hR.inF hat
  have hti:((i.toNat:Nat):Int)=i:=wj hi.1
  have hd:y.dst<f.vars.length:=by
   rcases hF.dst with h|h
   ·omega
   ·exact (bN h.2.2).1
  have hstep:=h.ins hd (fun a ha=>⟨(bN (hF.args a ha)).symm,yU h.old (fun v q hm hq=>hR.made_in v q hm hq hi.1) (by have:=hR.av hat a ha;rw[hti] at this;exact this)⟩) fun e=>by
   have hl2:y.args.length=2:=hF.cnt e
   match h:y.args,hl2 with
   |[a,c],_=>exact ⟨a,c,rfl⟩
  have htk:(aQ f i).insts.take (k+1)=(aQ f i).insts.take k++[y]:=by rw[List.take_add_one,hk];rfl
  rw[←htk] at hstep
  refine ij.inss hi l (k+1) ?_ hstep
  rw[←List.drop_drop,hl];rfl
theorem ij.blk {W:tT} {done:List Int} (hv:k5 f W done) (hs:DX f W done) {b:Int} (h0:0≤b) (h1:b<f.blocks.length) (hn:0≤nearD f b→nearD f b∈done):ij f W.blks b W.vars.length (dE f (dz f W b) b) (aQ f b).insts:=by
 have hG:=hR.hE.grph
 have hnow:(dz f W b).now=if 0≤nearD f b then fU W.ends (nearD f b) else aY f.vars.length:=rfl
 have hint:∀v:Int,0≤v→v<f.vars.length→vi (aY f.vars.length) v=v:=fun v g0 g1=>by
  unfold vi aY
  rw[w7,List.getElem?_range (by omega)]
  show ((v.toNat:Nat):Int)=v
  omega
 have hbeg:ij f W.blks b W.vars.length (dz f W b,[]) []:=by
  refine ⟨?_,⟨by have:=hv.vok.len;omega,Nat.le_refl _⟩,fun v g0 g1 hu=>?_,fun k k' x x' hx=>(by cases hx),fun x hx=>(by cases hx),U,fun k x hx=>(by cases hx),fun v g0 g1 hu=>?_⟩
  ·show (dz f W b).now.length=_
   rw[hnow]
   split
   ·rename_i k;exact (hv.ends _ (hn k)).len
   ·exact bR _
  ·right
   have hu:(f.vars.length:Int)≤vi (dz f W b).now v:=hu
   show nz f W.blks b (vi (dz f W b).now v)
   rw[hnow] at hu ⊢
   by_cases k:0≤nearD f b
   ·rw[if_pos k] at hu ⊢
    obtain ⟨j,c,h2,h3,h4⟩:=hs.nd _ (hn k) v g0 g1 hu
    have hb0:b≠0:=fun e=>by
     rw[e,hR.nearD ⟨Int.le_refl _,by have:=hR.hE.pos;omega⟩,if_pos rfl] at k
     omega
    have hnb:=hR.nearD ⟨h0,h1⟩
    rw[if_neg hb0] at hnb
    have hnm:=(hG.near_mem (hR.memO ⟨h0,h1⟩) hb0).1
    have hst:=(hR.near_dom ⟨h0,h1⟩ hb0).2 (.refl ((bQ hG.toEOk _).1 hnm))
    rw[←hnb] at hst
    refine ⟨j,c,fun e=>?_,h2.trans hst.1,h3,h4⟩
    rw[e] at h2
    exact hst.2 (cG hG hst.1 h2)
   ·rw[if_neg k,hint v g0 g1] at hu;omega
  ·have hu:vi (dz f W b).now v<f.vars.length:=hu
   show vi (dz f W b).now v=v
   rw[hnow] at hu ⊢
   by_cases k:0≤nearD f b
   ·rw[if_pos k] at hu ⊢
    exact hs.cur _ (hn k) v g0 g1 hu
   ·rw[if_neg k];exact hint v g0 g1
 have old0:∀{a:Int},Av f b 0 a→fM f b [] a:=fun h=>by
  rcases h with h|⟨h,h2⟩|h
  ·exact .inl h
  ·exact .inr (.inl ⟨h,.inl h2⟩)
  ·exact .inr (.inr h)
 have hrel:=hbeg.rels (l:=jJ f b) fun r hr=>⟨LI hR b r hr,old0 (Je hR ⟨h0,h1⟩ r hr).1,old0 (Je hR ⟨h0,h1⟩ r hr).2⟩
 exact ij.inss hR ⟨h0,h1⟩ _ 0 (List.drop_zero ..) (by rw[List.take_zero];exact hrel)
theorem DX.step {W:tT} {done:List Int} (hv:k5 f W done) (hs:DX f W done) (hd:∀u∈done,0≤u) {b:Int} (h0:0≤b) (h1:b<f.blocks.length) (hn:0≤nearD f b→nearD f b∈done) (hnd:b ∉ done):DX f (ke f W b) (done++[b]):=by
 have hb:=ij.blk hR hv hs h0 h1 hn
 have hG:=hR.hE.grph
 have hm:=dU h0 h1
 generalize hp:dE f (dz f W b) b=p at hb
 have hW:ke f W b=⟨p.1.vars,p.1.rts,p.1.k,W.ends.set b.toNat p.1.now,W.blks.set b.toNat ⟨(aQ f b).name,[],p.2,fy p.1 (aQ f b).term⟩⟩:=by unfold ke;rw[hp]
 have hbt:((b.toNat:Nat):Int)=b:=wj h0
 have hlt:b.toNat<W.blks.length:=by rw[hv.bl];omega
 have keep:∀(j:Nat) (c:aK),W.blks[j]?=some c→c.insts≠[]→(W.blks.set b.toNat ⟨(aQ f b).name,[],p.2,fy p.1 (aQ f b).term⟩)[j]?=some c:=fun j c hc hne=>by
  have:j≠b.toNat:=fun e=>hne (hs.zero j c hc (by rw[e,hbt];exact hnd))
  rw[List.getElem?_set_ne (by omega)];exact hc
 have get:∀{j:Nat} {c:aK},(W.blks.set b.toNat ⟨(aQ f b).name,[],p.2,fy p.1 (aQ f b).term⟩)[j]?=some c→(j=b.toNat∧c=⟨(aQ f b).name,[],p.2,fy p.1 (aQ f b).term⟩)∨(j≠b.toNat∧W.blks[j]?=some c):=fun {j c} hc=>by
  by_cases e:j=b.toNat
  ·rw[e,List.getElem?_set_self hlt] at hc
   exact .inl ⟨e,(Option.some.inj hc).symm⟩
  ·rw[List.getElem?_set_ne (by omega)] at hc
   exact .inr ⟨e,hc⟩
 have hset:(W.blks.set b.toNat (⟨(aQ f b).name,[],p.2,fy p.1 (aQ f b).term⟩:aK))[b.toNat]?=some ⟨(aQ f b).name,[],p.2,fy p.1 (aQ f b).term⟩:=List.getElem?_set_self hlt
 have hrow:∀u:Int,0≤u→fU (W.ends.set b.toNat p.1.now) u=if u=b then p.1.now else fU W.ends u:=fun u hu=>yN h0 (by rw[hv.el];exact h1) hu
 have hrb:nD (ah f) b:=(bQ hG.toEOk b).1 (hR.memO ⟨h0,h1⟩)
 rw[hW]
 have hdn:∀u∈done++[b],0≤u∧(u≠b→u∈done):=fun u hu=>by
  rcases List.mem_append.1 hu with k|k
  ·exact ⟨hd u k,fun _=>k⟩
  ·rw[List.mem_singleton.1 k];exact ⟨h0,fun e=>absurd rfl e⟩
 refine ⟨fun k c hc hk=>?_,fun u hu v g0 g1 hle=>?_,fun u hu v g0 g1 hle=>?_,fun u hu=>?_,fun k c hc x hx hle=>?_,fun k k' c c' hc hc' x hx x' hx' e hle=>?_⟩
 ·rcases get hc with ⟨e,_⟩|⟨_,hc⟩
  ·exact absurd (List.mem_append_right _ (by rw[e,hbt];exact .head _)) hk
  ·exact hs.zero k c hc fun h=>hk (List.mem_append_left _ h)
 ·have hle:(f.vars.length:Int)≤vi (fU (W.ends.set b.toNat p.1.now) u) v:=hle
  show sW f (W.blks.set _ _) u (vi (fU (W.ends.set b.toNat p.1.now) u) v)
  rw[hrow u (hdn u hu).1] at hle ⊢
  by_cases e:u=b
  ·subst e
   rw[if_pos rfl] at hle ⊢
   rcases hb.nd v g0 g1 hle with ⟨x,hx,e⟩|⟨j,c,_,h2,h3,h4⟩
   ·exact ⟨u.toNat,_,by rw[hbt];exact .refl hrb,hset,x,hx,e⟩
   ·obtain ⟨x,hx,e⟩:=h4
    exact ⟨j,c,h2,keep j c h3 (fun e=>by rw[e] at hx;cases hx),x,hx,e⟩
  ·rw[if_neg e] at hle ⊢
   exact (hs.nd u ((hdn u hu).2 e) v g0 g1 hle).mono keep
 ·have hle:vi (fU (W.ends.set b.toNat p.1.now) u) v<f.vars.length:=hle
  show vi (fU (W.ends.set b.toNat p.1.now) u) v=v
  rw[hrow u (hdn u hu).1] at hle ⊢
  by_cases e:u=b
  ·rw[if_pos e] at hle ⊢;exact hb.cur v g0 g1 hle
  ·rw[if_neg e] at hle ⊢;exact hs.cur u ((hdn u hu).2 e) v g0 g1 hle
 ·show ∃c,(W.blks.set _ _)[u.toNat]?=some c∧KO f (W.blks.set _ _) u c
  by_cases e:u=b
  ·subst e
   refine ⟨_,hset,hb.inj,hb.old,fun k x hx w hw=>(hb.use k x hx w hw).up keep,fun hk=>gq.up ?_ keep⟩
   have htv:=bN (fI (hR.run.term _ hm) hk)
   have e:(fy p.1 (aQ f u).term).var=vi p.1.now (aQ f u).term.var:=by unfold fy;rw[if_neg hk]
   show gq f W.blks u p.2 (fy p.1 (aQ f u).term).var
   rw[e]
   refine hb.here htv.2 htv.1 ?_
   have hat:=(hR.hs.2.2.2 u.toNat (by omega)).2.2
   have hbe:f.blocks[u.toNat]'(by omega)=aQ f u:=by
    have:=eO h0 h1
    exact (List.getElem?_eq_some_iff.1 this).2
   rw[hbe,hbt] at hat
   exact yU (k:=(aQ f u).insts.length) (by rw[w4];exact hb.old) (fun v q hm hq=>hR.made_in v q hm hq h0) (hat.resolve_left hk)
  ·obtain ⟨c,hc,hk⟩:=hs.blk u ((hdn u hu).2 e)
   have:=(hdn u hu).1
   exact ⟨c,by rw[List.getElem?_set_ne (by omega)];exact hc,hk.up keep⟩
 ·have hvl:=hb.vl.2
  show x.dst<p.1.vars.length
  rcases get hc with ⟨_,rfl⟩|⟨_,hc⟩
  ·exact (hb.new x hx hle).2
  ·have:=hs.new k c hc x hx hle;omega
 ·rcases get hc with ⟨e1,rfl⟩|⟨_,hc⟩
  ·rcases get hc' with ⟨e2,rfl⟩|⟨_,hc'⟩
   ·rw[e1,e2]
   ·have h2:=(hb.new x hx hle).1
    have h3:=hs.new k' c' hc' x' hx' (by omega)
    omega
  ·rcases get hc' with ⟨e2,rfl⟩|⟨_,hc'⟩
   ·have h2:=(hb.new x' hx' (by omega)).1
    have h3:=hs.new k c hc x hx hle
    omega
   ·exact hs.dis k k' c c' hc hc' x hx x' hx' e hle
theorem DX.all:∀(l:List Int) {W:tT} {done:List Int},k5 f W done→DX f W done→(∀u∈done,0≤u)→gm f done l→(done++l).Nodup→DX f (l.foldl (ke f) W) (done++l)
 |[],_,_,_,h,_,_,_=>by rw[wc];exact h
 |b::l,W,done,hv,h,hd,hn,hnd=>by
  have hb:b ∉ done:=fun k=>(List.nodup_append.1 hnd).2.2 b k b (.head _) rfl
  have:=DX.all l (hv.step hR.inf hd hn.1.1 hn.1.2 hn.2.1 hb) (h.step hR hv hd hn.1.1 hn.1.2 hn.2.1 hb) (fun u hu=>by rcases List.mem_append.1 hu with k|k;exact hd u k;rw[List.mem_singleton.1 k];exact hn.1.1) hn.2.2 (by rw[qz];exact hnd)
  rwa [qz] at this
theorem Iz:DX f (gl f) (gN f f.blocks.length 0):=by
 have:=DX.all hR _ (k5.first f) (DX.first f) (fun _ h=>by cases h) hR.ordB (by rw[List.nil_append];exact jE hR _ 0 ⟨Int.le_refl _,by have:=hR.hE.pos;omega⟩)
 rwa [List.nil_append] at this
end
end
section
open Go.Proofs.Tryz
open Go.Proofs
section
variable {f:ab} (hR:bm f)
include hR
theorem sX {i:Int} (h0:0≤i) (h1:i<f.blocks.length):∃c,(gl f).blks[i.toNat]?=some c∧(fu f).blocks[i.toNat]?=some { c with phis:=(aQ f i).phis.map (mc (gl f).ends) }∧KO f (gl f).blks i c∧sP f (gl f).rts i c:=by
 obtain ⟨c,hc,hk⟩:=(Iz hR).blk i (hR.ordAll ⟨h0,h1⟩)
 obtain ⟨c',hc',hk'⟩:=(qI hR).blks i (hR.ordAll ⟨h0,h1⟩)
 rw[hc] at hc'
 cases hc'
 exact ⟨c,hc,by rw[ol hR,eO h0 h1,hc]<;>rfl,hk,hk'⟩
theorem md:(fu f).blocks.length=f.blocks.length:=(vO hR).bl
end
end
section
open Go.Proofs.Tryz
open Go.Proofs
section
variable {f:ab} (hR:bm f)
include hR
end
end
section
open Go.Proofs.Tryz
open Go.Proofs
def DY (l:List UInt8):Nat:=l.foldl (fun a d=>a*10+(d.toNat - 48)) 0
theorem Gd (l:List UInt8) (d:UInt8):DY (l++[d])=DY l*10+(d.toNat - 48):=by unfold DY;rw[List.foldl_append];rfl
theorem uP {k:Nat} (h:k<10):(UInt8.ofNat (48+k)).toNat - 48=k:=by
 rw[UInt8.toNat_ofNat'];omega
theorem sY:∀(n k:Nat),k≤n→DY (uN n k)=k
 |0,k,h=>by
  obtain rfl:k=0:=by omega
  rfl
 |n+1,k,h=>by
  unfold uN
  split
  ·rename_i h
   show 0*10+_=k
   rw[uP h];omega
  ·rename_i h
   rw[Gd,sY n (k / 10) (by omega),uP (by omega)];omega
theorem uQ (k:Nat):DY (Bm k)=k:=sY k k (Nat.le_refl _)
theorem yV {a b:Nat} (h:ma a=ma b):a=b:=by
 have h1:(120::Bm a).toArray=(120::Bm b).toArray:=congrArg ByteArray.data h
 have h2:=congrArg Array.toList h1
 have h3:(120:UInt8)::Bm a=120::Bm b:=by simpa using h2
 have h4:=congrArg DY (List.cons.inj h3).2
 rwa [uQ,uQ] at h4
theorem k6 (f:ab):∀(n k:Nat),(k≤og f n k∧og f n k≤k+n)∧(∀j,k≤j→j<og f n k→gk f j=true)∧(gk f (og f n k)=false∨og f n k=k+n)
 |0,k=>⟨⟨Nat.le_refl _,Nat.le_refl _⟩,fun j h1 h2=>by unfold og at h2;omega,.inr rfl⟩
 |n+1,k=>by
  unfold og
  by_cases h:gk f k=true
  ·rw[if_pos h]
   obtain ⟨⟨h1,h2⟩,h3,h4⟩:=k6 f n (k+1)
   refine ⟨⟨by omega,by omega⟩,fun j g1 g2=>?_,h4.imp id fun e=>by omega⟩
   by_cases e:j=k
   ·rw[e];exact h
   ·exact h3 j (by omega) g2
  ·rw[if_neg h]
   exact ⟨⟨Nat.le_refl _,by omega⟩,fun j g1 g2=>by omega,.inl (Bool.eq_false_iff.2 h)⟩
theorem sZ (f:ab) (k:Nat):k≤fB f k∧fB f k≤k+f.vars.length+1:=(k6 f _ k).1
theorem pB (f:ab) (k:Nat):∀j,k≤j→j<fB f k→gk f j=true:=(k6 f _ k).2.1
theorem s6 (f:ab) (k:Nat):gk f (fB f k)=false:=by
 obtain ⟨_,h3,h4⟩:=k6 f (f.vars.length+1) k
 rcases h4 with h|h
 ·exact h
 ·exfalso
  rw[h] at h3
  have hn:((List.range (f.vars.length+1)).map fun j=>ma (k+j)).Nodup:=by
   unfold List.Nodup
   rw[List.pairwise_map]
   exact List.nodup_range.imp fun hne e=>hne (by have:=yV e;omega)
  have:=List.Nodup.length_le_of_subset hn (l₂:=f.vars.map (·.name)) fun x hx=>by
   obtain ⟨j,hj,rfl⟩:=List.mem_map.1 hx
   have hj:=List.mem_range.1 hj
   have:=h3 (k+j) (by omega) (by omega)
   unfold gk at this
   obtain ⟨v,hv,e⟩:=List.any_eq_true.1 this
   exact List.mem_map.2 ⟨v,hv,wk e⟩
  simp at this
  omega
def KP (f:ab) (vars:List lA) (k:Nat):Prop:=f.vars.length≤vars.length∧k≤(vars.length - f.vars.length)*(f.vars.length+2)
theorem KP.put {f:ab} {S:pX} (h:KP f S.vars S.k) (v:Int):KP f (jU f S v).vars (jU f S v).k:=by
 obtain ⟨h1,h2⟩:=h
 have h3:=(sZ f S.k).2
 refine ⟨?_,?_⟩
 ·show _≤(S.vars++[_]).length;rw[w5];omega
 ·show fB f S.k+1≤((S.vars++[_]).length - _)*_
  rw[w5]
  show _≤(S.vars.length+1 - f.vars.length)*_
  rw[show S.vars.length+1 - f.vars.length=(S.vars.length - f.vars.length)+1 by omega,Nat.add_mul,Nat.one_mul]
  omega
structure nA (f:ab) (b:Nat) (p:f8) (m q:Nat):Prop where
 k:KP f p.1.vars p.1.k
 vars:b≤p.1.vars.length∧p.1.vars.length≤b+m
 ins:p.2.length≤q
theorem nA.put {f:ab} {b m q:Nat} {p:f8} (h:nA f b p m q) (v:Int) (x:aB):nA f b (eR f p v x) (m+1) (q+1):=by
 unfold eR
 split
 ·exact ⟨h.k,⟨h.vars.1,by have:=h.vars.2;omega⟩,by have:=h.ins;omega⟩
 ·refine ⟨h.k.put v,?_,?_⟩
  ·show b≤(p.1.vars++[_]).length∧(p.1.vars++[_]).length≤_
   rw[w5]
   have:=h.vars
   show b≤p.1.vars.length+1∧p.1.vars.length+1≤_
   omega
  ·show (p.2++[_]).length≤_
   rw[w5]
   have:=h.ins
   show p.2.length+1≤_
   omega
theorem nA.rel {f:ab} {b m q:Nat} {p:f8} (h:nA f b p m q) (r:sH):nA f b (gx f p r) (m+2) (q+2):=(h.put _ _).put _ _
theorem nA.ins1 {f:ab} {b m q:Nat} {p:f8} (h:nA f b p m q) (x:aB):nA f b (fT f p x) (m+1) (q+2):=by
 have h1:nA f b (p.1,p.2++[f9 p.1 x]) m (q+1):=⟨h.k,h.vars,by rw[w5];have:=h.ins;show p.2.length+1≤_;omega⟩
 unfold fT
 split
 ·exact h1.put _ _
 ·exact ⟨h1.k,⟨h1.vars.1,by have:=h1.vars.2;omega⟩,by have:=h1.ins;omega⟩
theorem nA.rels {f:ab} {b:Nat}:∀(l:List sH) {m q:Nat} {p:f8},nA f b p m q→nA f b (l.foldl (gx f) p) (m+2*l.length) (q+2*l.length)
 |[],_,_,_,h=>h
 |r::l,m,q,p,h=>by
  have:=nA.rels l (h.rel r)
  rw[List.length_cons]
  rwa [show m+2*(l.length+1)=m+2+2*l.length by omega,show q+2*(l.length+1)=q+2+2*l.length by omega]
theorem nA.inss {f:ab} {b:Nat}:∀(l:List aB) {m q:Nat} {p:f8},nA f b p m q→nA f b (l.foldl (fT f) p) (m+l.length) (q+2*l.length)
 |[],_,_,_,h=>h
 |x::l,m,q,p,h=>by
  have:=nA.inss l (h.ins1 x)
  rw[List.length_cons]
  rwa [show m+(l.length+1)=m+1+l.length by omega,show q+2*(l.length+1)=q+2+2*l.length by omega]
theorem nA.blk {f:ab} {S:pX} (h:KP f S.vars S.k) (b:Int):nA f S.vars.length (dE f S b) (2*(jJ f b).length+(aQ f b).insts.length) (2*(jJ f b).length+2*(aQ f b).insts.length):=by
 have h0:nA f S.vars.length (S,[]) 0 0:=⟨h,⟨Nat.le_refl _,Nat.le_refl _⟩,Nat.le_refl _⟩
 have:=nA.inss (aQ f b).insts (nA.rels (jJ f b) h0)
 rw[Nat.zero_add] at this
 exact this
end
section
open Go.Proofs.Tryz
open Go.Proofs
def yW (f:ab) (vars:List lA) (k:Nat):Prop:=∃js:List Nat,vars=f.vars++js.map (fun j=>(⟨ma j,0⟩:lA))∧js.Pairwise (·<·)∧(∀j∈js,j<k∧gk f j=false)∧∀m,m<k→m∈js∨gk f m=true
theorem yW.put {f:ab} {S:pX} (h:yW f S.vars S.k) (v:Int):yW f (jU f S v).vars (jU f S v).k:=by
 obtain ⟨js,h1,h2,h3,h4⟩:=h
 have hn:=(sZ f S.k).1
 refine ⟨js++[fB f S.k],?_,?_,fun j hj=>?_,fun m hm=>?_⟩
 ·show S.vars++_=_
  rw[h1,wb,qz];rfl
 ·rw[List.pairwise_append]
  refine ⟨h2,by simp,fun a ha b hb=>?_⟩
  rw[List.mem_singleton.1 hb]
  have:=(h3 a ha).1
  omega
 ·show j<fB f S.k+1∧_
  rcases List.mem_append.1 hj with hj|hj
  ·have:=h3 j hj
   exact ⟨by omega,this.2⟩
  ·rw[List.mem_singleton.1 hj]
   exact ⟨by omega,s6 f S.k⟩
 ·have hm:m<fB f S.k+1:=hm
  by_cases e:m<S.k
  ·exact (h4 m e).imp (fun h=>List.mem_append_left _ h) id
  ·by_cases e2:m=fB f S.k
   ·exact .inl (List.mem_append_right _ (by rw[e2];exact .head _))
   ·exact .inr (pB f S.k m (by omega) (by omega))
section
variable {f:ab} {P:List lA→Nat→Prop} (hput:∀(S:pX) (v:Int),P S.vars S.k→P (jU f S v).vars (jU f S v).k)
include hput
theorem vP {p:f8} (h:P p.1.vars p.1.k) (v:Int) (x:aB):P (eR f p v x).1.vars (eR f p v x).1.k:=by
 unfold eR
 split
 ·exact h
 ·exact hput p.1 v h
theorem Cu:∀(l:List sH) {p:f8},P p.1.vars p.1.k→P (l.foldl (gx f) p).1.vars (l.foldl (gx f) p).1.k
 |[],_,h=>h
 |r::l,p,h=>Cu l (p:=gx f p r) (vP hput (vP hput h _ _) _ _)
theorem Cv:∀(l:List aB) {p:f8},P p.1.vars p.1.k→P (l.foldl (fT f) p).1.vars (l.foldl (fT f) p).1.k
 |[],_,h=>h
 |x::l,p,h=>Cv l (p:=fT f p x) (by
  unfold fT
  split
  ·exact vP hput (p:=(p.1,p.2++[f9 p.1 x])) h _ _
  ·exact h)
theorem Ge:∀(l:List Int) {W:tT},P W.vars W.k→P (l.foldl (ke f) W).vars (l.foldl (ke f) W).k
 |[],_,h=>h
 |b::l,W,h=>Ge l (W:=ke f W b) (by
  show P (dE f (dz f W b) b).1.vars (dE f (dz f W b) b).1.k
  unfold dE
  exact Cv hput _ (Cu hput _ (p:=(dz f W b,[])) h))
end
theorem s7 (f:ab):yW f (fu f).vars (gl f).k:=by
 have h0:yW f (vN f).vars (vN f).k:=⟨[],(wc _).symm,List.Pairwise.nil,fun j hj=>(by cases hj),fun m hm=>absurd hm (Nat.not_lt_zero m)⟩
 exact Ge (P:=yW f) (fun S v h=>h.put v) _ h0
theorem yW.le {f:ab} {vars:List lA} {k:Nat} (h:yW f vars k):k≤vars.length:=by
 obtain ⟨js,h1,_,_,h4⟩:=h
 have hn:((List.range k).map ma).Nodup:=by
  unfold List.Nodup
  rw[List.pairwise_map]
  exact List.nodup_range.imp fun hne e=>hne (yV e)
 have:=List.Nodup.length_le_of_subset hn (l₂:=f.vars.map (·.name)++js.map ma) fun x hx=>by
  obtain ⟨m,hm,rfl⟩:=List.mem_map.1 hx
  rcases h4 m (List.mem_range.1 hm) with h|h
  ·exact List.mem_append_right _ (List.mem_map.2 ⟨m,h,rfl⟩)
  ·obtain ⟨v,hv,e⟩:=List.any_eq_true.1 h
   exact List.mem_append_left _ (List.mem_map.2 ⟨v,hv,wk e⟩)
 rw[h1]
 simp at this ⊢
 omega
section
variable {f:ab} (hR:bm f)
include hR
end
end
section
open Go.Proofs.Tryz
open Go.Proofs
theorem iI {x:Int} {a b:bh} (h1:dS x a) (h2:dS x b):dS x (cF a b):=by
 unfold dS at *
 unfold cF eF ff eo fN
 (repeat' split)<;>(try dsimp only at *)<;>omega
theorem Gf {x:Int} {a b:bh} (h:dS x a):dS x (df a b):=by
 unfold dS at *
 unfold df eF ff eo fN
 (repeat' split)<;>(try dsimp only at *)<;>omega
theorem Gg {x:Int} {a b:bh} (h:dS x b):dS x (df a b):=by
 unfold dS at *
 unfold df eF ff eo fN
 (repeat' split)<;>(try dsimp only at *)<;>omega
theorem Bo {x:Int} {a b:bh} (h:dS x a) (hs:m0 a b):dS x b:=by
 unfold dS m0 at *;omega
theorem s8 {no yes t:Bool} (h0:t=false→no=true) (h1:t=true→yes=true):dS (if t=true then 1 else 0) (rg no yes):=by
 unfold dS rg
 cases t
 ·rw[h0 rfl];cases yes<;>simp
 ·rw[h1 rfl];cases no<;>simp
theorem Kp {k:Nat} (hk:k≤2) {a b:bh} {x y:Int} {chk:Bool} (ha:cO a) (hb:cO b) (hx:dS x a) (hy:dS y b) (hc:chk=true→dk k x y):dS (IntKind.i64.wrap (gP k x y)) (vg k a b chk):=by
 unfold vg
 by_cases h:chk=true∨lO k a b
 ·rw[if_pos h]
  have hf:dk k x y:=by
   rcases h with h|h
   ·exact hc h
   ·exact (Aq (a:=(x,x)) (b:=(y,y)) (Int.le_refl _) (Int.le_refl _) ⟨hx.1,hx.2⟩ ⟨hy.1,hy.2⟩ h).1
  have hw:=gf hf
  have:=HC hk ha hb hx hy
  rw[hw]
  have e:nK (gP k x y)=gP k x y:=by
   unfold dk bg at hf
   unfold nK ib ig
   (repeat' split)<;>omega
  rwa [e] at this
 ·rw[if_neg h]
  have:=qF (gP k x y)
  unfold bg at this
  unfold dS lC ib ig
  exact this
theorem Kq {a b:bh} {x y:Int} (ha:cO a) (hb:cO b) (hx:dS x a) (hy:dS y b) (h0:y≠0):dS (tQ x y) (mK a b):=by
 unfold tQ
 by_cases hno:a.1=ib∧b.1≤-1∧-1≤b.2
 ·unfold mK
  rw[if_pos hno]
  have:=qF (x.tdiv y)
  unfold bg at this
  unfold dS ib ig
  exact this
 ·have h:=JC hx hy h0 hno
  have:=JD ha hb hx hy hno h0
  rw[show IntKind.i64.wrap (x.tdiv y)=x.tdiv y by unfold bg at this;rw[kN];omega]
  exact h
theorem Kr {a b:Int} (ha:bg a) (hb:b≠0):o5 a b=a.tmod b:=by
 unfold bg at ha
 unfold o5
 by_cases h1:b=-1
 ·rw[if_pos h1,h1,Int.tmod_neg,Int.tmod_one]
 ·rw[if_neg h1]
  have e1:(a.tdiv b).natAbs=a.natAbs / b.natAbs:=Int.natAbs_tdiv ..
  have e2:(a.tdiv b*b).natAbs=a.natAbs / b.natAbs*b.natAbs:=by rw[Int.natAbs_mul,e1]
  have e3:=Nat.div_mul_le_self a.natAbs b.natAbs
  have e4:a.tmod b=a - a.tdiv b*b:=by rw[Int.tmod_def,Int.mul_comm]
  have hq:bg (a.tdiv b):=by
   unfold bg
   by_cases h2:b=1
   ·rw[h2,Int.tdiv_one];exact ha
   ·have:a.natAbs / b.natAbs≤a.natAbs / 2:=Nat.div_le_div_left (by omega) (by omega)
    omega
  have e5:IntKind.i64.wrap (a.tdiv b)=a.tdiv b:=by unfold bg at hq;rw[kN];omega
  have e7:(a.tmod b).natAbs=a.natAbs % b.natAbs:=Int.natAbs_tmod ..
  have e8:a.natAbs % b.natAbs≤a.natAbs:=Nat.mod_le ..
  have e9:a.natAbs % b.natAbs<b.natAbs:=Nat.mod_lt _ (by omega)
  rw[e5]
  rw[e4] at e7 ⊢
  generalize a.tdiv b*b=p at *
  rw[show IntKind.i64.wrap p=p by rw[kN];omega]
  rw[kN];omega
theorem Ks {a b:bh} {x y:Int} (hx64:bg x) (hx:dS x a) (hy:dS y b) (h0:y≠0):dS (o5 x y) (CW a b):=by
 rw[Kr hx64 h0]
 have e7:(x.tmod y).natAbs=x.natAbs % y.natAbs:=Int.natAbs_tmod ..
 have e8:x.natAbs % y.natAbs≤x.natAbs:=Nat.mod_le ..
 have e9:x.natAbs % y.natAbs<y.natAbs:=Nat.mod_lt _ (by omega)
 have s1:0≤x→0≤x.tmod y:=fun h=>Int.tmod_nonneg y h
 have s2:x≤0→x.tmod y≤0:=fun h=>by
  have:=Int.tmod_nonneg y (show 0≤-x by omega)
  rw[Int.neg_tmod] at this
  omega
 generalize x.tmod y=t at *
 unfold dS at *
 unfold CW K8 eo ff
 rw[if_neg (by omega)]
 dsimp only
 (repeat' split)<;>omega
theorem LJ {a b:bh} {x y:Int} (hx:dS x a) (hy:dS y b):dS (if decide (x=y)=true then 1 else 0) (LW a b):=by
 unfold LW
 refine s8 (fun h=>?_) fun h=>?_
 ·have h:=wl h
  rw[Bool.not_eq_true',Bool.and_eq_false_iff]
  by_cases e:a.1=a.2
  ·right
   refine wg fun e2=>h ?_
   unfold dS at *
   rw[←e2] at hy
   omega
  ·exact .inl (wg e)
 ·have h:=wk h
  rw[Bool.not_eq_true']
  subst h
  have:=iI hx hy
  unfold dS at this
  exact wg (by omega)
theorem LK {a b:bh} {x y:Int} (hx:dS x a) (hy:dS y b):dS (if decide (x<y)=true then 1 else 0) (Mf a b):=by
 unfold dS at hx hy
 exact s8 (fun h=>we (by have:=wl h;omega)) fun h=>we (by have:=wk h;omega)
theorem LL {a b:bh} {x y:Int} (hx:dS x a) (hy:dS y b):dS (if decide (x≤y)=true then 1 else 0) (Mg a b):=by
 unfold dS at hx hy
 exact s8 (fun h=>we (by have:=wl h;omega)) fun h=>we (by have:=wk h;omega)
theorem Kt {a:bh} {p:Bool} (h:dS (if p=true then 1 else 0) a) (ha:0≤a.1∧a.2≤1):dS (if (!p)=true then 1 else 0) (HD a):=by
 unfold dS at h
 refine s8 (fun e=>we ?_) fun e=>we ?_
 ·cases p
  ·cases e
  ·simp at h;omega
 ·cases p
  ·simp at h;omega
  ·cases e
theorem Ku {a b:bh} {p q:Bool} (h:dS (if p=true then 1 else 0) a) (g:dS (if q=true then 1 else 0) b) (ha:0≤a.1∧a.2≤1) (hb:0≤b.1∧b.2≤1):dS (if (p&&q)=true then 1 else 0) (HE a b):=by
 unfold dS at h g
 refine s8 (fun e=>?_) fun e=>?_
 ·rw[Bool.or_eq_true,wm,wm]
  cases p
  ·left;simp at h;omega
  ·cases q
   ·right;simp at g;omega
   ·cases e
 ·rw[wh,wm,wm]
  cases p
  ·cases e
  ·cases q
   ·cases e
   ·simp at h g;omega
structure IA (num x y:Int):Prop where
 lt:num=0→x<y
 le:num=1→x≤y
 eq:num=2→x=y
 ge:num=3→y≤x
 gt:num=4→y<x
theorem Gh {num:Int} {a b:bh} {x y:Int} (hx64:bg x) (hy64:bg y) (hx:dS x a) (hy:dS y b) (h:IA num x y):dS x (wW num a b):=by
 unfold bg at hx64 hy64
 unfold dS at hy
 unfold wW
 split
 ·rename_i e
  have:=h.lt e
  rw[if_neg (by unfold ib;omega)]
  exact iI hx ⟨by unfold ib;dsimp only;omega,by dsimp only;omega⟩
 split
 ·rename_i e
  have:=h.le e
  exact iI hx ⟨by unfold ib;dsimp only;omega,by dsimp only;omega⟩
 split
 ·rename_i e
  have:=h.eq e
  exact iI hx ⟨by omega,by omega⟩
 split
 ·rename_i e
  have:=h.ge e
  exact iI hx ⟨by dsimp only;omega,by unfold ig;dsimp only;omega⟩
 split
 ·rename_i e
  have:=h.gt e
  rw[if_neg (by unfold ig;omega)]
  exact iI hx ⟨by dsimp only;omega,by unfold ig;dsimp only;omega⟩
 ·exact hx
def dG (g:ab) (s:GS) (v:Int):Int:=if aU g v=0 then vi s.ints v else if aU g v=2 then (if vi s.arrs v<0 then 0 else ((cY s (vi s.arrs v)).length:Int)) else if gb s.bools v=true then 1 else 0
section
variable {g:ab} {s:GS} {l:List bh}
theorem vQ {v:Int} (h:aU g v=0):dG g s v=vi s.ints v:=if_pos h
theorem vR {v:Int} (h:aU g v=1):dG g s v=if gb s.bools v=true then 1 else 0:=by unfold dG;rw[if_neg (by omega),if_neg (by omega)]
theorem Gi {v:Int} (h:aU g v=2):dG g s v=if vi s.arrs v<0 then 0 else ((cY s (vi s.arrs v)).length:Int):=by unfold dG;rw[if_neg (by omega),if_pos h]
theorem vS (hs:bA g s) (h64:ka s) {v:Int} (hv:v<g.vars.length∧0≤v) (ht:0≤aU g v∧aU g v≤2):dS (dG g s v) (gU (aU g v)):=by
 have h3:aU g v=0∨aU g v=1∨aU g v=2:=by omega
 rcases h3 with h|h|h
 ·rw[vQ h,h]
  have:=mT (v:=v) hs.i64
  unfold bg at this
  exact this
 ·rw[vR h,h]
  split<;>exact ⟨by decide,by decide⟩
 ·rw[Gi h,h]
  have:=Km h hs h64 hv
  rw[MB h] at this
  exact this
theorem Jf (hs:bA g s) (h64:ka s) {v:Int} (hv:v<g.vars.length∧0≤v) (ht:0≤aU g v∧aU g v≤2) (h:dS (dG g s v) (lv l v)):dS (dG g s v) (oR g l v):=iI h (vS hs h64 hv ht)
theorem me:aX 4=[0,0]∧aX 13=[2,0]∧aX 25=[0,0]∧aX 26=[0,2]:=by decide
theorem k7:di 4=0∧di 7=1∧di 8=1∧di 9=1∧di 10=1∧di 11=1∧di 13=0∧di 25=0∧di 26=0:=by decide
theorem iJ:bE 4=true∧bE 7=true∧bE 8=true∧bE 9=true∧bE 10=true∧bE 11=true∧bE 13=true∧bE 25=true∧bE 26=true:=by decide
theorem LM {x:aB} (hs:∀v∈x.args,dS (dG g s v) (oR g l v)):(0<x.args.length→dS (dG g s (dq x)) (ra (ef g l x) 0))∧(1<x.args.length→dS (dG g s (eU x)) (ra (ef g l x) 1)):=by
 constructor
 ·intro h
  rw[oS]
  unfold dq
  rw[qx h]
  exact hs _ (w3 h)
 ·intro h
  rw[oS]
  unfold eU
  rw[qx h]
  exact hs _ (w3 h)
theorem Jg {x:aB} (hok:∀u:Int,0≤u→cO (lv l u)) (h0:∀v∈x.args,0≤v) (i:Nat):cO (ra (ef g l x) i):=by
 rw[oS]
 split
 ·rename_i v h
  exact FC hok (h0 v (w9 h))
 ·exact ⟨⟨by decide,by decide⟩,by decide,by decide⟩
set_option maxHeartbeats 4000000 in
theorem IB {x:aB} {chk:Bool} (hs:bA g s) (h64:ka s) (hF:dC g x) (hT:fz g x=true) (hP:PX s x) (hd0:0≤x.dst) (hty:∀v:Int,v<g.vars.length∧0≤v→0≤aU g v∧aU g v≤2) (hok:∀u:Int,0≤u→cO (lv l u)) (hl:∀v∈x.args,dS (dG g s v) (lv l v))
  (hc:chk=true→∀k:Nat,k≤2→x.op=2+(k:Int)→dk k (aG s x) (bG s x)) (hpi:x.op=25→IA x.num (aG s x) (bG s x)) (hlen:x.op=26→0≤aG s x∧aG s x<dG g s (eU x)) :
  dS (dG g s x.dst) (if (ef g l x).any tJ=true then fN else wY x.op x.num (ef g l x) chk):=by
 have hv:∀v∈x.args,dS (dG g s v) (oR g l v):=fun v hm=>Jf hs h64 (bN (hF.args v hm)) (hty v (bN (hF.args v hm))) (hl v hm)
 have hemp:¬(ef g l x).any tJ=true:=fun h=>by
  obtain ⟨r,hr,he⟩:=List.any_eq_true.1 h
  obtain ⟨v,hm,rfl⟩:=List.mem_map.1 hr
  have:=hv v hm
  have he:=wk he
  unfold dS at this
  omega
 rw[if_neg hemp]
 obtain ⟨r0,r1⟩:=LM hv
 have o0:=Jg (g:=g) (x:=x) hok (fun v hm=>(bN (hF.args v hm)).2) 0
 have o1:=Jg (g:=g) (x:=x) hok (fun v hm=>(bN (hF.args v hm)).2) 1
 have dst:=bN (f:=g) (v:=x.dst)
 have two:∀{k a b:Int},x.op=k→¬k=1→aX k=[a,b]→(aU g (dq x)=a∧aU g (eU x)=b)∧0<x.args.length∧1<x.args.length:=fun e h1 ht=>by
  have:=d5 hT e h1 ht
  obtain ⟨h2,y,z,h3⟩:=sK this
  exact ⟨h2,by rw[h3];simp,by rw[h3];simp⟩
 have one:∀{k a:Int},x.op=k→¬k=1→aX k=[a]→aU g (dq x)=a∧0<x.args.length:=fun e h1 ht=>by
  have:=d5 hT e h1 ht
  obtain ⟨h2,y,h3⟩:=LF this
  exact ⟨h2,by rw[h3];simp⟩
 have a64:bg (aG s x):=mT hs.i64
 have b64:bg (bG s x):=mT hs.i64
 have dty:∀{k t:Int},x.op=k→¬k=1→bE k=true→di k=t→aU g x.dst=t:=fun e h1 hm ht=>FZ hT e h1 hm ht
 have any:aU g x.dst=0→dS (dG g s x.dst) lC:=fun h=>by
  rw[vQ h]
  have:=mT (v:=x.dst) hs.i64
  unfold bg at this
  exact this
 have aV:aU g (dq x)=0→dG g s (dq x)=aG s x:=fun h=>vQ h
 have bV:aU g (eU x)=0→dG g s (eU x)=bG s x:=fun h=>vQ h
 have sum:∀k:Nat,k≤2→x.op=2+(k:Int)→aX (2+(k:Int))=[0,0]→bE (2+(k:Int))=true→di (2+(k:Int))=0→vi s.ints x.dst=IntKind.i64.wrap (gP k (aG s x) (bG s x))→dS (dG g s x.dst) (vg k (ra (ef g l x) 0) (ra (ef g l x) 1) chk):=fun k hk e ht hm hz hval=>by
  obtain ⟨⟨k0,k1⟩,l0,l1⟩:=two e (by omega) ht
  rw[vQ (dty e (by omega) hm hz),hval]
  have q0:=r0 l0
  have q1:=r1 l1
  rw[aV k0] at q0
  rw[bV k1] at q1
  exact Kp hk o0 o1 q0 q1 fun h=>hc h k hk e
 have hop:=hF.op
 have hm:bE x.op=true:=by
  rcases hF.dst with h|h
  ·omega
  ·exact h.1
 obtain ⟨j,hj⟩:∃j:Nat,x.op=(j:Int):=⟨x.op.toNat,by omega⟩
 have hmj:=Bi j (by omega)
 rw[←hj,hm] at hmj
 have hjl:j<27:=by omega
 have cases27:j=0∨j=1∨j=2∨j=3∨j=4∨j=5∨j=6∨j=7∨j=8∨j=9∨j=10∨j=11∨j=12∨j=13∨j=15∨j=16∨j=25∨j=26∨(j=14∨17≤j∧j≤24):=by omega
 have hV:V s x.dst=V s (dq x)→aU g x.dst=aU g (dq x)→dG g s x.dst=dG g s (dq x):=fun h hk=>by
  obtain ⟨v1,v2,v3⟩:=pA h
  unfold dG
  rw[hk,v1,v2,v3]
 unfold wY
 rcases cases27 with rfl|rfl|rfl|rfl|rfl|rfl|rfl|rfl|rfl|rfl|rfl|rfl|rfl|rfl|rfl|rfl|rfl|rfl|hbad
 ·have e:x.op=0:=hj
  simp only[e,if_true]
  rw[vQ (dty e (by decide) jT.1 l9.1),hP.i0 e]
  exact ⟨Int.le_refl _,Int.le_refl _⟩
 ·have e:x.op=1:=hj
  have hl1:0<x.args.length:=by rw[hF.cnt e];decide
  have hk:aU g x.dst=aU g (dq x):=by
   unfold fz at hT
   rw[if_pos e] at hT
   rw[wk hT]
   unfold dq
   cases x.args<;>rfl
  simp only[e]
  rw[hV (hP.i1 e) hk]
  exact r0 hl1
 ·have e:x.op=2:=hj
  simp only[e]
  exact sum 0 (by decide) e fD.1 jT.2.1 l9.2.1 (hP.i2 e)
 ·have e:x.op=3:=hj
  simp only[e]
  exact sum 1 (by decide) e fD.2.1 jT.2.2.1 l9.2.2.1 (hP.i3 e)
 ·have e:x.op=4:=hj
  simp only[e]
  exact sum 2 (by decide) e me.1 iJ.1 k7.1 (hP.i4 e)
 ·have e:x.op=5:=hj
  obtain ⟨⟨k0,k1⟩,l0,l1⟩:=two e (by decide) fD.2.2.1
  obtain ⟨hb,hval⟩:=hP.i5 e
  simp only[e]
  rw[vQ (dty e (by decide) jT.2.2.2.1 l9.2.2.2.1),hval]
  exact Kq o0 o1 (aV k0▸r0 l0) (bV k1▸r1 l1) hb
 ·have e:x.op=6:=hj
  obtain ⟨⟨k0,k1⟩,l0,l1⟩:=two e (by decide) fD.2.2.2.1
  obtain ⟨hb,hval⟩:=hP.i6 e
  simp only[e]
  rw[vQ (dty e (by decide) jT.2.2.2.2.1 l9.2.2.2.2.1),hval]
  exact Ks a64 (aV k0▸r0 l0) (bV k1▸r1 l1) hb
 ·have e:x.op=7:=hj
  obtain ⟨⟨k0,k1⟩,l0,l1⟩:=two e (by decide) fD.2.2.2.2.1
  simp only[e]
  rw[vR (dty e (by decide) iJ.2.1 k7.2.1),hP.i7 e]
  exact LJ (aV k0▸r0 l0) (bV k1▸r1 l1)
 ·have e:x.op=8:=hj
  obtain ⟨⟨k0,k1⟩,l0,l1⟩:=two e (by decide) fD.2.2.2.2.2.1
  simp only[e]
  rw[vR (dty e (by decide) iJ.2.2.1 k7.2.2.1),hP.i8 e]
  exact LK (aV k0▸r0 l0) (bV k1▸r1 l1)
 ·have e:x.op=9:=hj
  obtain ⟨⟨k0,k1⟩,l0,l1⟩:=two e (by decide) fD.2.2.2.2.2.2.1
  simp only[e]
  rw[vR (dty e (by decide) iJ.2.2.2.1 k7.2.2.2.1),hP.i9 e]
  exact LL (aV k0▸r0 l0) (bV k1▸r1 l1)
 ·have e:x.op=10:=hj
  obtain ⟨k0,l0⟩:=one e (by decide) fD.2.2.2.2.2.2.2.1
  have q0:=r0 l0
  rw[vR k0] at q0
  simp only[e]
  rw[vR (dty e (by decide) iJ.2.2.2.2.1 k7.2.2.2.2.1),hP.i10 e]
  refine Kt q0 ?_
  have hm0:dq x∈x.args:=yH l0
  rw[oS,show x.args[0]?=some (dq x) by unfold dq;rw[qx l0];rfl]
  refine vE (f:=g) k0 ?_
  have:=hv _ hm0
  unfold dS at this;omega
 ·have e:x.op=11:=hj
  obtain ⟨⟨k0,k1⟩,l0,l1⟩:=two e (by decide) fD.2.2.2.2.2.2.2.2.1
  have q0:=r0 l0
  have q1:=r1 l1
  rw[vR k0] at q0
  rw[vR k1] at q1
  simp only[e]
  rw[vR (dty e (by decide) iJ.2.2.2.2.2.1 k7.2.2.2.2.2.1),hP.i11 e]
  refine Ku q0 q1 ?_ ?_
  ·rw[oS,show x.args[0]?=some (dq x) by unfold dq;rw[qx l0];rfl]
   refine vE (f:=g) k0 ?_
   have:=hv _ (yH l0)
   unfold dS at this;omega
  ·rw[oS,show x.args[1]?=some (eU x) by unfold eU;rw[qx l1];rfl]
   refine vE (f:=g) k1 ?_
   have:=hv _ (F3 l1)
   unfold dS at this;omega
 ·have e:x.op=12:=hj
  obtain ⟨k0,l0⟩:=one e (by decide) fD.2.2.2.2.2.2.2.2.2.1
  obtain ⟨h1,h2⟩:=hP.i12 e
  have q0:=r0 l0
  rw[Gi k0] at q0
  simp only[e]
  rw[vQ (dty e (by decide) jT.2.2.2.2.2.1 l9.2.2.2.2.2.1),h2]
  unfold rG at h1 ⊢
  rw[if_neg (by omega)] at q0
  exact q0
 ·have e:x.op=13:=hj
  simp only[e]
  exact any (dty e (by decide) iJ.2.2.2.2.2.2.1 k7.2.2.2.2.2.2.1)
 ·have e:x.op=15:=hj
  obtain ⟨k0,l0⟩:=one e (by decide) fD.2.2.2.2.2.2.2.2.2.2.1
  have kd:=dty e (by decide) jT.2.2.2.2.2.2.1 l9.2.2.2.2.2.2.1
  obtain ⟨h1,h2⟩:=hP.i15 e
  have q0:=r0 l0
  rw[aV k0] at q0
  have ht:=vS hs h64 (hF.d e rfl) (hty _ (hF.d e rfl))
  rw[kd] at ht
  have hval:dG g s x.dst=aG s x:=by rw[Gi kd,if_neg (by omega),h2]
  rw[hval] at ht ⊢
  simp only[e]
  exact iI q0 ht
 ·have e:x.op=16:=hj
  have kd:=dty e (by decide) jT.2.2.2.2.2.2.2 l9.2.2.2.2.2.2.2
  simp only[e]
  rw[Gi kd,hP.i16 e,if_pos (by decide)]
  exact ⟨Int.le_refl _,Int.le_refl _⟩
 ·have e:x.op=25:=hj
  obtain ⟨⟨k0,k1⟩,l0,l1⟩:=two e (by decide) me.2.2.1
  have kd:=dty e (by decide) iJ.2.2.2.2.2.2.2.1 k7.2.2.2.2.2.2.2.1
  have hval:=hV (hP.i25 e) (by rw[kd,k0])
  simp only[e]
  rw[hval,aV k0]
  exact Gh a64 b64 (aV k0▸r0 l0) (bV k1▸r1 l1) (hpi e)
 ·have e:x.op=26:=hj
  obtain ⟨⟨k0,k1⟩,l0,l1⟩:=two e (by decide) me.2.2.2
  have kd:=dty e (by decide) iJ.2.2.2.2.2.2.2.2 k7.2.2.2.2.2.2.2.2
  have hval:=hV (hP.i26 e) (by rw[kd,k0])
  obtain ⟨h1,h2⟩:=hlen e
  have q1:=r1 l1
  have t1:=vS hs h64 (hF.a1 l1) (hty _ (hF.a1 l1))
  rw[k1] at t1
  simp only[e]
  rw[hval,aV k0]
  have hb0:dS (aG s x) (0,ig):=⟨h1,a64.2⟩
  refine Gh (num:=0) a64 (y:=dG g s (eU x)) ?_ (iI (aV k0▸r0 l0) hb0) q1 ⟨fun _=>h2,fun h=>(by cases h),fun h=>(by cases h),fun h=>(by cases h),fun h=>(by cases h)⟩
  have t1:(0:Int)≤dG g s (eU x)∧dG g s (eU x)≤64:=t1
  unfold bg;omega
 ·exfalso
  have:j=14∨j=17∨j=18∨j=19∨j=20∨j=21∨j=22∨j=23∨j=24:=by omega
  rcases this with rfl|rfl|rfl|rfl|rfl|rfl|rfl|rfl|rfl<;>cases hmj
end
end
section
open Go.Proofs.Tryz
open Go.Proofs
section
variable {f:ab} (hR:bm f)
include hR
end
end
section
open Go.Proofs.Tryz
open Go.Proofs Go.Lib
theorem Bp {f:ab} (h:bH f) (h64:∀b∈f.blocks,∀x∈b.insts,bg x.num):o6 f:=by
 have h1:=h.1
 unfold nU at h1
 simp only[Bool.or_eq_false_iff,decide_eq_false_iff_not] at h1
 obtain ⟨_,_,_,_,_,h6⟩:=h
 exact ⟨by omega,fun b hb=>(h6 b hb).1,fun b hb x hx=>⟨gh ((h6 b hb).2.1 x hx),h64 b hb x hx⟩,fun b hb=>(h6 b hb).2.2⟩
theorem pC {f:ab} (h:bH f):f.params.length≤f.vars.length:=by
 have h1:=h.1
 unfold nU at h1
 simp only[Bool.or_eq_false_iff,decide_eq_false_iff_not] at h1
 omega
theorem Bq {f:ab} (h:bH f) (j:Nat):0≤mD f j∧mD f j≤2:=by
 obtain ⟨_,_,h3,_⟩:=h
 unfold mD
 by_cases hj:j<f.vars.length
 ·rw[qx hj];exact ⟨(h3 j hj).2.1,(h3 j hj).2.2.1⟩
 ·rw[List.getElem?_eq_none (by omega)];exact ⟨by decide,by decide⟩
end
section
open Go.Proofs.Tryz
open Go.Proofs
section
variable (f:ab)
theorem vT (p:f8) (v:Int) (x:aB):(eR f p v x).2.length+p.1.vars.length=p.2.length+(eR f p v x).1.vars.length:=by
 unfold eR
 split
 ·rfl
 ·show (p.2++[_]).length+_=_+(p.1.vars++[_]).length
  rw[w5,w5]
  show p.2.length+1+_=_+(_+1)
  omega
theorem yX:∀(l:List sH) (p:f8),(l.foldl (gx f) p).2.length+p.1.vars.length=p.2.length+(l.foldl (gx f) p).1.vars.length
 |[],_=>rfl
 |r::l,p=>by
  have h1:=yX l (gx f p r)
  have h2:=vT f p r.a ⟨25,0,[vi p.1.now r.a,vi p.1.now r.b],r.n⟩
  have h3:=vT f (eR f p r.a ⟨25,0,[vi p.1.now r.a,vi p.1.now r.b],r.n⟩) r.b ⟨25,0,[vi p.1.now r.b,vi p.1.now r.a],kz r.n⟩
  have h4:gx f p r=eR f (eR f p r.a ⟨25,0,[vi p.1.now r.a,vi p.1.now r.b],r.n⟩) r.b ⟨25,0,[vi p.1.now r.b,vi p.1.now r.a],kz r.n⟩:=rfl
  rw[←h4] at h3
  rw[List.foldl_cons]
  omega
theorem yY:∀(l:List aB) (p:f8),(l.foldl (fT f) p).2.length+p.1.vars.length=p.2.length+l.length+(l.foldl (fT f) p).1.vars.length
 |[],_=>rfl
 |x::l,p=>by
  have h1:=yY l (fT f p x)
  have h2:(fT f p x).2.length+p.1.vars.length=p.2.length+1+(fT f p x).1.vars.length:=by
   unfold fT
   split
   ·have:=vT f (p.1,p.2++[f9 p.1 x]) (eU x) ⟨26,0,[vi p.1.now (eU x),vi p.1.now (dq x)],0⟩
    have h5:((p.2++[f9 p.1 x]).length:Nat)=p.2.length+1:=w5
    have h6:((p.1,p.2++[f9 p.1 x]):f8).2.length=p.2.length+1:=h5
    have h7:((p.1,p.2++[f9 p.1 x]):f8).1.vars.length=p.1.vars.length:=rfl
    omega
   ·show (p.2++[_]).length+_=_
    rw[w5];rfl
  rw[List.foldl_cons,List.length_cons]
  omega
theorem IC (S:pX) (b:Int):(dE f S b).2.length+S.vars.length=(aQ f b).insts.length+(dE f S b).1.vars.length:=by
 have h1:=yX f (jJ f b) (S,[])
 have h2:=yY f (aQ f b).insts ((jJ f b).foldl (gx f) (S,[]))
 have h3:((S,[]):f8).2.length=0:=rfl
 have h4:((S,[]):f8).1.vars.length=S.vars.length:=rfl
 unfold dE
 omega
def pY (W:tT):Prop:=f.vars.length≤W.vars.length∧∀(k:Nat) (c:aK),W.blks[k]?=some c→c.insts.length+f.vars.length≤W.vars.length+(aQ f k).insts.length
theorem pY.first:pY f (vN f):=⟨Nat.le_refl _,fun k c hc=>by
 have hc:(List.replicate f.blocks.length yL)[k]?=some c:=hc
 rw[List.getElem?_replicate] at hc
 split at hc
 ·cases hc
  show 0+f.vars.length≤f.vars.length+_
  omega
 ·cases hc⟩
theorem pY.step {W:tT} (h:pY f W) {b:Int} (h0:0≤b):pY f (ke f W b):=by
 obtain ⟨h1,h2⟩:=h
 have hl:=IC f (dz f W b) b
 obtain ⟨⟨vs,hvs⟩,_⟩:=uO f (dz f W b) b
 have hvl:=congrArg List.length hvs
 rw[w5] at hvl
 have e:(dz f W b).vars.length=W.vars.length:=rfl
 have e2:(ke f W b).vars=(dE f (dz f W b) b).1.vars:=rfl
 refine ⟨by rw[e2];omega,fun k c hc=>?_⟩
 rw[e2]
 have hc:(W.blks.set b.toNat ⟨(aQ f b).name,[],(dE f (dz f W b) b).2,fy (dE f (dz f W b) b).1 (aQ f b).term⟩)[k]?=some c:=hc
 rw[List.getElem?_set] at hc
 split at hc
 ·rename_i hk
  split at hc
  ·cases hc
   have:(k:Int)=b:=by omega
   rw[this]
   show (dE f (dz f W b) b).2.length+_≤_
   omega
  ·cases hc
 ·have:=h2 k c hc
  omega
theorem pY.all:∀(l:List Int) {W:tT},pY f W→(∀b∈l,0≤b)→pY f (l.foldl (ke f) W)
 |[],_,h,_=>h
 |b::l,_,h,hn=>pY.all l (h.step f (hn b (.head _))) fun u hu=>hn u (.tail _ hu)
end
theorem yZ:(List.range 513).all (fun i=>decide ((ma i).size≤1000))=true:=by decide +kernel
section
variable {f:ab} (hR:bm f)
include hR
theorem zA:pY f (gl f):=pY.all f _ (pY.first f) fun b hb=>(gp hR _ 0 ⟨Int.le_refl _,by have:=hR.hE.pos;omega⟩ b hb).2.1
theorem Br (hf:small f) (hi:∀b∈f.blocks,b.insts.length≤400) (hv:(fu f).vars.length≤512):small (fu f):=by
 obtain ⟨s1,s2,s3,s4,s5⟩:=hf
 have hle:=(s7 f).le
 obtain ⟨js,e,_,g3,_⟩:=s7 f
 refine ⟨by omega,s2,by rw[md hR];exact s3,fun v hm=>?_,fun b hb=>?_⟩
 ·rw[e] at hm
  rcases List.mem_append.1 hm with hm|hm
  ·exact s4 v hm
  ·obtain ⟨j,hj,rfl⟩:=List.mem_map.1 hm
   have:=(g3 j hj).1
   exact wk (List.all_eq_true.1 yZ j (List.mem_range.2 (by omega)))
 ·obtain ⟨k,hk⟩:=List.getElem?_of_mem hb
  have hkl:=(List.getElem?_eq_some_iff.1 hk).1
  rw[md hR] at hkl
  obtain ⟨c,hc,hg,_,hok⟩:=sX hR (i:=(k:Int)) (by omega) (by omega)
  rw[Int.toNat_natCast] at hg hc
  rw[hk] at hg
  cases hg
  have hbm:aQ f (k:Int)∈f.blocks:=dU (by omega) (by omega)
  obtain ⟨b1,b2,b3,b4,b5⟩:=s5 _ hbm
  have hcl:=(zA hR).2 k c hc
  have hvl:(gl f).vars.length≤512:=hv
  have hil:=hi _ hbm
  have hcn:=hok.name
  refine ⟨by show c.name.size≤1000;rw[hcn];exact b1,by show (List.map _ _).length≤1000;rw[w6];exact b2,by show c.insts.length≤1000;omega,fun p hp=>?_,fun x hx=>?_⟩
  ·obtain ⟨q,hq,rfl⟩:=List.mem_map.1 (show p∈(aQ f (k:Int)).phis.map (mc (gl f).ends) from hp)
   have:=b4 q hq
   refine ⟨?_,this.2⟩
   show ((q.args.zip q.from_).map _).length≤1000
   rw[w6,List.length_zip]
   omega
  ·have hx:x∈c.insts:=hx
   obtain ⟨q,hq⟩:=List.getElem?_of_mem hx
   have hF:=hok.frm q x hq
   generalize c.insts.take q=L at hF
   cases hF with
   |old hy hI=>
    rename_i y
    have:=b5 y hy
    have h2:=congrArg List.length hI.args
    rw[w6] at h2
    omega
   |pi=>show 2≤1000;decide
   |len=>show 2≤1000;decide
theorem Gj:∀b∈(fu f).blocks,∀x∈b.insts,bg x.num:=fun b hb x hx=>by
 obtain ⟨k,hk⟩:=List.getElem?_of_mem hb
 have hkl:=(List.getElem?_eq_some_iff.1 hk).1
 rw[md hR] at hkl
 obtain ⟨c,hc,hg,_,hok⟩:=sX hR (i:=(k:Int)) (by omega) (by omega)
 rw[Int.toNat_natCast,hk] at hg
 cases hg
 have hx:x∈c.insts:=hx
 obtain ⟨q,hq⟩:=List.getElem?_of_mem hx
 have hF:=hok.frm q x hq
 generalize c.insts.take q=L at hF
 cases hF with
 |old hy hI=>rw[hI.num];exact (hR.run.insts _ (dU (by omega) (by omega)) _ hy).2
 |@pi l d a b n r hd ha hb hrt hr h=>
  have hN:=(Ko hR (k:Int) r hr).2
  show bg n
  rcases h with ⟨_,_,h⟩|⟨_,_,h⟩
  ·rw[h]
   exact ⟨by omega,by omega⟩
  ·rw[h]
   unfold kz
   split
   ·exact ⟨by decide,by decide⟩
   ·split
    ·exact ⟨by decide,by decide⟩
    ·exact ⟨by decide,by decide⟩
 |len=>exact (show bg (0:Int) from ⟨by decide,by decide⟩)
end
end
section
open Go.Proofs.Tryz
open Go.Proofs Go.Lib Go.Shelf Go.RowKit
theorem uR:∀(n k:Nat),k≤n→uN n k=decDigits k
 |0,k,h=>by
  have:k=0:=by omega
  subst this
  rw[decDigits,dif_pos (by omega)];rfl
 |n+1,k,h=>by
  unfold uN
  split
  ·rename_i c
   rw[decDigits,dif_pos c]
  ·rename_i c
   rw[decDigits.eq_1 k,dif_neg c,uR n (k / 10) (by omega)]
theorem Gk (k:Nat):Bm k=decDigits k:=uR k k (Nat.le_refl _)
theorem Gl (k:Nat):ma k=oI (120::decDigits k):=by rw[←Gk];rfl
def tU (y:Nat) (acc:List UInt8):List UInt8:=if y=0∧acc≠[] then acc else decDigits y++acc
theorem DZ {y:Nat} {acc:List UInt8} (h:0<y∨acc=[]):tU (y / 10) (UInt8.ofNat (48+y % 10)::acc)=tU y acc:=by
 have e:tU (y / 10) (UInt8.ofNat (48+y % 10)::acc)=I6 (y / 10) (UInt8.ofNat (48+y % 10)::acc):=by
  unfold tU I6
  by_cases h0:y / 10=0
  ·rw[if_pos ⟨h0,by simp⟩,if_pos h0]
  ·rw[if_neg (fun k=>h0 k.1),if_neg h0]
 rw[e]
 by_cases h0:0<y
 ·rw[xo acc h0]
  unfold I6 tU
  rw[if_neg (by omega),if_neg (fun k=>by omega)]
 ·have hy:y=0:=by omega
  have ha:acc=[]:=h.resolve_left h0
  subst hy ha
  rw[Db 0]
  unfold tU
  rw[if_neg (fun k=>k.2 rfl),wc]
theorem Gm (f:ab) {k j:Nat} (h0:k≤j) (h1:j≤fB f k) (h:gk f j=false):j=fB f k:=by
 by_cases e:j<fB f k
 ·rw[pB f k j h0 e] at h;cases h
 ·omega
theorem Gn (f:ab) {k j:Nat} (h1:j≤fB f k) (h:gk f j=true):j<fB f k:=by
 by_cases e:j=fB f k
 ·rw[e,s6] at h;cases h
 ·omega
def tV (f:ab) (b k:Int):Bool:=!decide (k=b)&&(domF f b k&&decide (nearD f k=b))
def tW (f:ab) (n:Nat) (b:Int) (k:Nat):List Int:=b::(((aY f.blocks.length).take k).filter (tV f b)).flatMap (gN f n)
theorem D0 {f:ab} {n:Nat} {b:Int} {k:Nat} (hk:k<f.blocks.length):tW f n b (k+1)=tW f n b k++if tV f b k=true then gN f n k else[]:=by
 have hg:(aY f.blocks.length)[k]?=some (k:Int):=by unfold aY;rw[w7,List.getElem?_range hk];rfl
 unfold tW
 rw[List.take_add_one,hg,List.filter_append,List.flatMap_append]
 show b::(_++_)=_
 rw[←List.cons_append]
 congr 1
 show List.flatMap _ (List.filter _ [(k:Int)])=_
 rw[List.filter_cons]
 split
 ·rw[List.filter_nil,List.flatMap_cons,List.flatMap_nil,wc]
 ·rfl
theorem zB (f:ab) (n:Nat) (b:Int):tW f n b f.blocks.length=gN f (n+1) b:=by
 unfold tW
 rw[List.take_of_length_le (by unfold aY;simp)];rfl
theorem Gp {f:ab} (hR:bm f) {n:Nat} {b:Int} (hb:0≤b∧b<f.blocks.length) (k:Nat):(tW f n b k).length≤f.blocks.length:=by
 have h:=sS hR (n+1) hb
 rw[←zB] at h
 refine Nat.le_trans ?_ h
 unfold tW
 rw[List.length_cons,List.length_cons]
 refine Nat.succ_le_succ ?_
 have e:=List.take_append_drop k (aY f.blocks.length)
 have e2:(((aY f.blocks.length).take f.blocks.length).filter (tV f b)).flatMap (gN f n)=(((aY f.blocks.length).take k).filter (tV f b)).flatMap (gN f n)++(((aY f.blocks.length).drop k).filter (tV f b)).flatMap (gN f n):=by
  rw[←List.flatMap_append,←List.filter_append,e,List.take_of_length_le (by unfold aY;simp)]
 rw[e2,w5]
 omega
theorem ID {f:ab} (hR:bm f) {b c:Int} (hc:(0≤c∧c<f.blocks.length)∧tV f b c=true):gi (b9 (ah f) f.blocks.length) c=gi (b9 (ah f) f.blocks.length) b+1:=by
 have h1:=gn.1 (show c∈yO f b from List.mem_filter.2 ⟨dB.2 hc.1,hc.2⟩)
 have hc0:c≠0:=fun e0=>h1.2.1 (by
  have:=(hR.domF _ _).1 h1.2.2.1
  exact (cG hR.hE.grph (e0▸.root this.rch) this))
 have hlev:=hR.hE.grph.lev_near (hR.memO h1.1) hc0
 have hn:=h1.2.2.2
 rw[hR.nearD h1.1,if_neg hc0] at hn
 rw[hn] at hlev
 exact hlev
end
section
open Go.Proofs.Tryz
open Go.Proofs
def dw (g:ab) (s:GS):List Int:=match (aQ g s.blk).insts[s.pc]? with
 |some x=>if 0≤x.dst then[x.dst] else[]
 |none=>if (aQ g s.blk).term.kind=2 then[] else (aQ g (fJ g s)).phis.map (·.dst)
structure kh (g:ab) (l:List bh):Prop where
 ok:∀u:Int,0≤u→cO (lv l u)
 rule:∀v:Int,0≤v→v<g.vars.length→0≤(aD g v).1→m0 (l5 g (nu g) l v) (lv l v)
 first:∀v:Int,0≤v→v<g.vars.length→(aD g v).1<0→m0 (nv g v) (lv l v)
def mf (g:ab):Prop:=∀s,kb g s→∀(i k:Nat) (x:aB),sE g i k x→s.blk=(i:Int)→bM g ((i:Int),(k:Int)) s.blk s.pc→(x.op=25→IA x.num (aG s x) (bG s x))∧(x.op=26→0≤aG s x∧aG s x<dG g s (eU x))
theorem om {g:ab} {s t:GS} (hs:bA g s) {v:Int} (hv:v<g.vars.length∧0≤v) (h:V t v=V s v) (hr:∀a:Int,0≤a→a<s.arrays.length→(cY t a).length=(cY s a).length):dG g t v=dG g s v:=by
 obtain ⟨v1,v2,v3⟩:=lF h
 unfold dG
 rw[v1,v2,v3]
 by_cases h0:vi s.arrs v<0
 ·rw[if_pos h0,if_pos h0]
 ·rw[if_neg h0,if_neg h0,hr _ (by omega) (iG hs hv).2]
theorem IE {s:GS} {d:Int} {A:Act} (h0:s.ended=false) (h:(Bk s d A).ended=true):(∀v,V (Bk s d A) v=V s v)∧(Bk s d A).arrays=s.arrays:=by
 cases A with
 |stop e=>exact ⟨fun _=>rfl,rfl⟩
 |_=>exact absurd (h0.symm.trans h) (by decide)
theorem D1 {g:ab} {s:GS} (h0:s.ended=false) (h:(bu g s).ended=true):(∀v,V (bu g s) v=V s v)∧(bu g s).arrays=s.arrays:=by
 cases hx:(aQ g s.blk).insts[s.pc]? with
 |some x=>
  have hst:bu g s=ba { s with pc:=s.pc+1,st:=s.st+1 } x:=by unfold bu;rw[hx]
  rw[hst] at h ⊢
  unfold ba at h ⊢
  split at h
  ·rename_i hc
   rw[if_pos hc]
   split at h
   ·exact absurd (h0.symm.trans h) (by decide)
   ·rename_i hp
    rw[if_neg hp];exact ⟨fun _=>rfl,rfl⟩
  ·rename_i hc
   rw[if_neg hc,o8]
   rw[o8] at h
   exact IE (s:={ s with pc:=s.pc+1,st:=s.st+1 }) h0 h
 |none=>
  unfold bu at h ⊢
  rw[hx] at h ⊢
  dsimp only at h ⊢
  split at h
  ·rename_i hk
   rw[if_pos hk];exact ⟨fun _=>rfl,rfl⟩
  ·rename_i hk
   rw[if_neg hk]
   unfold fa at h ⊢
   split at h
   ·exfalso
    have:=(iH { s with st:=s.st+1 } (aQ g (fJ g s)).phis { s with st:=s.st+1 }).2
    have h:(((aQ g (fJ g s)).phis.foldl (assign { s with st:=s.st+1 }) { s with st:=s.st+1 }).ended)=true:=h
    rw[this] at h
    exact absurd (h0.symm.trans h) (by decide)
   ·rename_i ha
    rw[if_neg ha];exact ⟨fun _=>rfl,rfl⟩
theorem Bs {s t:GS} {p:cZ} {n:Nat} (h:t.ints.length=n∧t.bools.length=n∧t.arrs.length=n):(assign s t p).ints.length=n∧(assign s t p).bools.length=n∧(assign s t p).arrs.length=n:=by
 unfold assign stA stB stI
 simp[h.1,h.2.1,h.2.2]
theorem s9 {s:GS} {v a:Int} {n:Nat} (h0:0≤v) (h1:v<n):∀(l:List cZ) (t:GS),(t.ints.length=n∧t.bools.length=n∧t.arrs.length=n)→(∀q∈l,0≤q.dst∧(q.dst=v→da q s.blk=a))→(V t v=V s a∨∃q∈l,q.dst=v)→V (l.foldl (assign s) t) v=V s a
 |[],t,_,_,h=>by
  rcases h with h|⟨q,hq,_⟩
  ·exact h
  ·cases hq
 |p::l,t,hl,hq,h=>by
  rw[List.foldl_cons]
  refine s9 h0 h1 l _ (Bs hl) (fun q hm=>hq q (.tail _ hm)) ?_
  by_cases e:p.dst=v
  ·left
   have:=FW (s:=s) (t:=t) (p:=p) (by omega) (by omega) hl
   rw[e] at this
   rw[this,(hq p (.head _)).2 e]
  ·rcases h with h|⟨q,hm,hd⟩
   ·left
    rw[ny,vL (hq p (.head _)).1 h0 fun e2=>e e2.symm]
    exact h
   ·rcases List.mem_cons.1 hm with rfl|hm
    ·exact absurd hd e
    ·exact .inr ⟨q,hm,hd⟩
section
variable {g:ab} {l:List bh} (hR:bm g)
include hR
theorem bm.ty {v:Int} (hv:v<g.vars.length∧0≤v):0≤aU g v∧aU g v≤2:=by
 have:=hR.hS.2.2.1 v.toNat (by omega)
 unfold aU
 rw[qx (by omega)]
 exact ⟨this.2.1,this.2.2.1⟩
theorem bm.of_maker {i k:Nat} {x:aB} (h:sE g i k x) {v:Int} (hm:aD g v=((i:Int),(k:Int))):x.dst=v:=by
 have h1:aD g v∈bp g v:=ku (by rw[hm];dsimp only;omega)
 rw[hm] at h1
 obtain ⟨j,b,hb,h2⟩:=eH.1 h1
 rcases f6.1 h2 with ⟨p,_,_,e⟩|⟨q,y,hy,hd,e⟩
 ·simp only[Prod.mk.injEq] at e;omega
 ·simp only[Prod.mk.injEq] at e
  have e1:j=i:=by omega
  have e2:q=k:=by omega
  subst e1 e2
  have:=sE.one h ⟨b,hb,hy⟩
  rw[this];exact hd
theorem bm.of_phi {i:Nat} {k:Int} (hk:k<0) {b:aK} (hb:g.blocks[i]?=some b) {v:Int} (hm:aD g v=((i:Int),k)):∃p∈b.phis,p.dst=v:=by
 have h1:aD g v∈bp g v:=ku (by rw[hm];dsimp only;omega)
 rw[hm] at h1
 obtain ⟨j,c,hc,h2⟩:=eH.1 h1
 rcases f6.1 h2 with ⟨p,hp,hd,e⟩|⟨q,y,hy,hd,e⟩
 ·simp only[Prod.mk.injEq] at e
  have e1:j=i:=by omega
  subst e1
  rw[hb] at hc
  cases hc
  exact ⟨p,hp,hd⟩
 ·simp only[Prod.mk.injEq] at e;omega
theorem Gq {s:GS} (hI:kb g s) {i k:Nat} {x:aB} (hat:sE g i k x) (hb:s.blk=(i:Int)) (ha:bM g ((i:Int),(k:Int)) s.blk s.pc) (h0:0≤x.dst) (hc:nu g x.dst=true):∀q:Nat,q≤2→x.op=2+(q:Int)→dk q (aG s x) (bG s x):=fun q hq he=>by
 have hmk:=hR.made hat h0
 obtain ⟨hF,hT⟩:=hR.inF hat
 obtain ⟨b,hbk,hx⟩:=hat
 unfold nu at hc
 have hin:kX g (aD g x.dst)=some x:=by
  rw[hmk]
  unfold kX
  rw[if_pos ⟨by dsimp only;omega,by dsimp only;omega⟩]
  dsimp only
  rw[show (i:Int).toNat=i from rfl,hbk]
  exact hx
 rw[hin,hmk] at hc
 have hc:tK g x (i:Int) (k:Int)=true:=hc
 unfold tK at hc
 rw[wh] at hc
 obtain ⟨i',k',b',z,h1,h2,h3,h4,h5⟩:=xZ.1 hc.2
 have h5:=(gI hR.hE _ _ _).1 h5
 have hz:bM g ((i':Int),(k':Int)) s.blk s.pc:=fq (p:=((i:Int),(k:Int))) hR.hE h5 ha (by dsimp only;omega)
 have hp:=(hI.px i' k' z ⟨b',h1,h2⟩ hz).ck (by omega) (by omega)
 have ht:x.args.map (aU g)=[0,0]:=by
  have h3:q=0∨q=1∨q=2:=by omega
  rcases h3 with rfl|rfl|rfl
  ·exact d5 hT he (by decide) fD.1
  ·exact d5 hT he (by decide) fD.2.1
  ·exact d5 hT he (by decide) me.1
 obtain ⟨_,y,w,hyw⟩:=sK ht
 rw[h3,h4,hyw,show x.op+19=21+(q:Int) by omega] at hp
 have:=F0 hq hp
 unfold aG bG dq eU
 rw[hyw];exact this
theorem MInv.inst (hS:kh g l) (hPi:mf g) {s:GS} {made:Int→Prop} (hI:kb g s) (hA:∀v:Int,0≤v→v<g.vars.length→Av g s.blk s.pc v→made v) (hM:∀v:Int,0≤v→v<g.vars.length→made v→dS (dG g s v) (lv l v)) (he:s.ended=false) {x:aB} (hx:(aQ g s.blk).insts[s.pc]?=some x) (he':(bu g s).ended=false) :
  (∀v:Int,0≤v→v<g.vars.length→Av g (bu g s).blk (bu g s).pc v→made v∨v∈dw g s)∧∀v:Int,0≤v→v<g.vars.length→made v∨v∈dw g s→dS (dG g (bu g s) v) (lv l v):=by
 have hJ:=hI.step hR he he'
 obtain ⟨i,hi⟩:∃i:Nat,s.blk=(i:Int):=⟨s.blk.toNat,by have:=hI.g.b0;omega⟩
 have hil:i<g.blocks.length:=by have:=hI.g.b1;omega
 have hb:=qx hil
 have hat:sE g i s.pc x:=⟨_,hb,by rw[hi,dD hb] at hx;exact hx⟩
 obtain ⟨hF,hT⟩:=hR.inF hat
 have hst:bu g s=ba { s with pc:=s.pc+1,st:=s.st+1 } x:=by unfold bu;rw[hx]
 obtain ⟨p1,p2⟩:=Cr { s with pc:=s.pc+1,st:=s.st+1 } x
 have hblk:(bu g s).blk=(i:Int):=by rw[hst,p1];exact hi
 have hpc:(bu g s).pc=s.pc+1:=by rw[hst,p2]
 have hmk:dw g s=if 0≤x.dst then[x.dst] else[]:=by unfold dw;rw[hx]
 have hV:∀v:Int,0≤v→v≠x.dst→V (bu g s) v=V s v:=fun v h0 h1=>by rw[hst,sM hF h0 h1];rfl
 have hrow:∀a:Int,0≤a→a<s.arrays.length→(cY (bu g s) a).length=(cY s a).length:=fun a h0 h1=>by
  rw[hst]
  exact (uM (s:={ s with pc:=s.pc+1,st:=s.st+1 }) x h0 h1).2
 have hat2:bM g ((i:Int),(s.pc:Int)) (bu g s).blk (bu g s).pc:=.inr (.inl ⟨hblk.symm,by rw[hpc];dsimp only;omega⟩)
 rw[hmk]
 refine ⟨fun v h0 h1 ha=>?_,fun v h0 h1 hm=>?_⟩
 ·unfold Av at ha
  rw[hblk,hpc] at ha
  rcases sF.1 (show bM g (aD g v) (i:Int) ((s.pc:Int)+1) from ha) with h|⟨e1,e2⟩
  ·exact .inl (hA v h0 h1 (by unfold Av;rw[hi];exact h))
  ·have hd:=hR.of_maker hat (v:=v) (Prod.ext e1 e2)
   right
   rw[if_pos (by omega),hd];exact .head _
 ·by_cases e:v=x.dst
  ·have hd0:0≤x.dst:=by omega
   have hmx:=hR.made hat hd0
   have hin:=IB (l:=l) (chk:=nu g x.dst) hJ.g hJ.r64 hF hT (hJ.px i s.pc x hat hat2) hd0 (fun v hv=>hR.ty hv) hS.ok (fun u hu=>?_) (fun hc=>Gq hR hJ hat hblk hat2 hd0 hc) (fun h=>(hPi _ hJ i s.pc x hat hblk hat2).1 h) (fun h=>(hPi _ hJ i s.pc x hat hblk hat2).2 h)
   ·rw[e]
    refine Bo ?_ (hS.rule _ hd0 (by omega) (by rw[hmx];dsimp only;omega))
    obtain ⟨b,hbb,hxx⟩:=hat
    rw[mC hbb hxx hmx]
    exact hin
   ·have hu2:=bN (hF.args u hu)
    have hav:=hR.av hat u hu
    have hne:u≠x.dst:=fun e=>by
     unfold Av at hav
     rw[e,hmx] at hav
     rcases hav with h|⟨_,h⟩|⟨_,h,_⟩
     ·dsimp only at h;omega
     ·dsimp only at h;omega
     ·exact h rfl
    rw[om hI.g hu2 (hV u hu2.2 hne) hrow]
    exact hM u hu2.2 hu2.1 (hA u hu2.2 hu2.1 (by rw[hi];exact hav))
  ·have hm:made v:=by
    rcases hm with h|h
    ·exact h
    ·exfalso
     split at h
     ·exact e (List.mem_singleton.1 h)
     ·cases h
   rw[om hI.g ⟨h1,h0⟩ (hV v h0 e) hrow]
   exact hM v h0 h1 hm
omit hR in
theorem pD {f:ab} {l:List bh} {x:Int}:∀(az:List Int) (r:bh),(dS x r∨∃a∈az,dS x (oR f l a))→dS x (az.foldl (fun acc v=>df acc (oR f l v)) r)
 |[],r,h=>by
  rcases h with h|⟨a,ha,_⟩
  ·exact h
  ·cases ha
 |a::az,r,h=>by
  rw[List.foldl_cons]
  refine pD az _ ?_
  rcases h with h|⟨b,hb,h⟩
  ·exact .inl (Gf h)
  ·rcases List.mem_cons.1 hb with rfl|hb
   ·exact .inl (Gg h)
   ·exact .inr ⟨b,hb,h⟩
omit hR in
theorem Bt {p:cZ} {b:Int} (h:0≤da p b):(da p b,b)∈p.args.zip p.from_:=by
 unfold da at h ⊢
 cases e:(p.from_.zip p.args).find? fun q=>decide (q.1=b) with
 |none=>rw[e] at h;exact absurd h (by decide)
 |some z=>
  have h1:=List.mem_of_find?_eq_some e
  have h2:z.1=b:=wk (List.find?_some (p:=fun q:Int × Int=>decide (q.1=b)) e)
  show (z.2,b)∈_
  rw[←h2]
  have swap:∀{xs ys:List Int} {z:Int × Int},z∈ys.zip xs→(z.2,z.1)∈xs.zip ys:=fun {xs}=>by
   induction xs with
   |nil=>intro ys z h;cases ys<;>cases h
   |cons a xs ih=>
    intro ys z h
    cases ys with
    |nil=>cases h
    |cons b ys=>
     rw[List.zip_cons_cons] at h ⊢
     rcases List.mem_cons.1 h with rfl|h
     ·exact .head _
     ·exact .tail _ (ih h)
  exact swap h1
set_option maxHeartbeats 1600000 in
theorem MInv.term (hS:kh g l) {s:GS} {made:Int→Prop} (hI:kb g s) (hA:∀v:Int,0≤v→v<g.vars.length→Av g s.blk s.pc v→made v) (hM:∀v:Int,0≤v→v<g.vars.length→made v→dS (dG g s v) (lv l v)) (he:s.ended=false) (hx:(aQ g s.blk).insts[s.pc]?=none) (he':(bu g s).ended=false) :
  (∀v:Int,0≤v→v<g.vars.length→Av g (bu g s).blk (bu g s).pc v→made v∨v∈dw g s)∧∀v:Int,0≤v→v<g.vars.length→made v∨v∈dw g s→dS (dG g (bu g s) v) (lv l v):=by
 obtain ⟨i,hi⟩:∃i:Nat,s.blk=(i:Int):=⟨s.blk.toNat,by have:=hI.g.b0;omega⟩
 have hil:i<g.blocks.length:=by have:=hI.g.b1;omega
 have hb:=qx hil
 have hpc:(s.pc:Int)=fA g s.blk:=by
  have h1:=hI.g.pc
  have h2:=List.getElem?_eq_none_iff.1 hx
  rw[hi,ky hb]
  rw[hi,dD hb] at h1 h2
  omega
 have hk:¬(aQ g s.blk).term.kind=2:=fun h=>by
  unfold bu at he'
  rw[hx] at he'
  dsimp only at he'
  rw[if_pos h] at he'
  cases he'
 have hmk:dw g s=(aQ g (fJ g s)).phis.map (·.dst):=by unfold dw;rw[hx];dsimp only;rw[if_neg hk]
 have hst:bu g s=fa g { s with st:=s.st+1 } (fJ g s):=by
  unfold bu;rw[hx];dsimp only;rw[if_neg hk]
 obtain ⟨s0,hs0⟩:∃s0:GS,{ s with st:=s.st+1 }=s0:=⟨_,rfl⟩
 have e0:s0.ended=false∧s0.blk=s.blk∧s0.arrays=s.arrays∧(∀v,V s0 v=V s v)∧s0.ints.length=g.vars.length∧s0.bools.length=g.vars.length∧s0.arrs.length=g.vars.length:=by rw[←hs0];exact ⟨he,rfl,rfl,fun _=>rfl,hI.g.li,hI.g.lb,hI.g.la⟩
 have htm:=hR.run.term _ (dU hI.g.b0 hI.g.b1)
 have hends:ah g s.blk=cK (aQ g s.blk).term:=by rw[hi,m6 hil,dD hb]
 obtain ⟨t0',t1'⟩:=vK htm hk
 obtain ⟨c,hcn⟩:∃c,fJ g s=c:=⟨_,rfl⟩
 have hce:c∈ah g s.blk:=by
  rw[hends,←hcn]
  exact (yI _ _ fun h0=>(t1' h0).1).1
 have hcr:0≤c∧c<g.blocks.length:=by
  have:=kZ hR.run hI.g hk
  rw[hcn] at this
  exact this
 obtain ⟨to,rfl⟩:∃to:Nat,c=(to:Int):=⟨c.toNat,by omega⟩
 have htl:to<g.blocks.length:=by omega
 have hcb:=qx htl
 rw[hcn,hs0] at hst
 rw[hcn,dD hcb] at hmk
 unfold fa at hst
 rw[dD hcb] at hst
 by_cases hall:(g.blocks[to]'htl).phis.all (fun p=>decide (0≤da p s0.blk))=true
 case neg=>rw[hst,if_neg hall] at he';cases he'
 rw[if_pos hall] at hst
 have hph:∀p∈(g.blocks[to]'htl).phis,(p.dst<g.vars.length∧0≤p.dst)∧aD g p.dst=((to:Int),-1):=fun p hp=>by
  have:=hR.run.phis _ (w3 htl) p hp
  exact ⟨bN this.1,hR.hO.phi to _ p hcb hp⟩
 have hV:∀v:Int,0≤v→¬aD g v=((to:Int),-1)→V (bu g s) v=V s v:=fun v h0 h1=>by
  rw[hst]
  show V ((g.blocks[to]'htl).phis.foldl (assign s0) s0) v=_
  rw[kc h0 _ _ fun p hp=>⟨(hph p hp).1.2,fun e=>h1 (by rw[←e];exact (hph p hp).2)⟩]
  exact e0.2.2.2.1 v
 have har:(bu g s).arrays=s.arrays:=by rw[hst];exact (iH s0 _ _).1.trans e0.2.2.1
 have hrow:∀a:Int,0≤a→a<s.arrays.length→(cY (bu g s) a).length=(cY s a).length:=fun a _ _=>by unfold cY;rw[har]
 have hirch:nD (ah g) s.blk:=by rw[hi];exact hR.hs.2.1 i hil
 have hblk:(bu g s).blk=(to:Int)∧(bu g s).pc=0:=by rw[hst];exact ⟨rfl,rfl⟩
 rw[hmk]
 refine ⟨fun v h0 h1 ha=>?_,fun v h0 h1 hm=>?_⟩
 ·unfold Av at ha
  rw[hblk.1,hblk.2] at ha
  have ha:bM g (aD g v) (to:Int) 0:=ha
  by_cases hto:(aD g v).1=(to:Int)∧(aD g v).2<0
  ·right
   obtain ⟨p,hp,hd⟩:=hR.of_phi hto.2 hcb (v:=v) (Prod.ext hto.1 rfl)
   exact List.mem_map.2 ⟨p,hp,hd⟩
  ·left
   refine hA v h0 h1 ?_
   unfold Av
   rw[hpc]
   refine sG hirch hce (k:=0) (by omega) ha (fun e=>?_) (fun e=>?_)
   ·
    by_cases h2:0≤(aD g v).2
    ·by_cases h3:0≤(aD g v).1
     ·have h4:=ku h3
      obtain ⟨j,b,hbj,h5⟩:=eH.1 h4
      rcases f6.1 h5 with ⟨p,_,_,e5⟩|⟨q,y,hy,_,e5⟩
      ·rw[e5] at h2;dsimp only at h2;omega
      ·rw[e5] at e ⊢
       dsimp only at e ⊢
       rw[←e,ky hbj]
       have:=(List.getElem?_eq_some_iff.1 hy).1
       omega
     ·have:=hI.g.b0;omega
    ·have h6:0≤fA g s.blk:=by rw[←hpc];omega
     omega
   ·have:¬(aD g v).2<0:=fun h=>hto ⟨e,h⟩
    omega
 ·by_cases hmt:aD g v=((to:Int),-1)
  ·obtain ⟨p,hp,hd⟩:=hR.of_phi (k:=-1) (by decide) hcb hmt
   have hlen:(bp g v).length≤1:=by
    have:=(hR.hs.2.2.1 v.toNat (by omega)).1
    rwa [wj h0] at this
   have hone:=Cm hlen hcb hp hd
   have hpa:0≤da p s.blk:=by
    have:=List.all_eq_true.1 hall p hp
    rw[e0.2.1] at this
    exact wk this
   have hVv:V (bu g s) v=V s (da p s.blk):=by
    rw[hst]
    show V ((g.blocks[to]'htl).phis.foldl (assign s0) s0) v=_
    rw[s9 (s:=s0) (a:=da p s.blk) (n:=g.vars.length) h0 (by omega) _ s0 e0.2.2.2.2 (fun q hq=>⟨(hph q hq).1.2,fun e=>?_⟩) (.inr ⟨p,hp,hd⟩),e0.2.2.2.1]
    have:q∈(g.blocks[to]'htl).phis.filter fun q=>decide (q.dst=v):=List.mem_filter.2 ⟨hq,we e⟩
    rw[hone] at this
    rw[List.mem_singleton.1 this,e0.2.1]
   have hpm:=o7 hpa
   have hsh:=hR.run.phis _ (w3 htl) p hp
   have hva:=bN (List.all_eq_true.1 hsh.2.2.2.1 _ hpm)
   have hkd:aU g (da p s.blk)=aU g v:=by
    have hB:=hR.hT _ (w3 htl)
    unfold jK at hB
    simp only[wh] at hB
    have h2:=List.all_eq_true.1 hB.1.1 p hp
    unfold tz at h2
    rw[Bool.not_eq_true',List.any_eq_false] at h2
    have:=h2 _ hpm
    rw[hd] at this
    exact Classical.byContradiction fun h=>this (by rw[wg h];rfl)
   have hav:Av g s.blk s.pc (da p s.blk):=by
    unfold Av
    rw[hpc]
    exact (hR.hs.2.2.2 to htl).1 p hp (da p s.blk,s.blk) (Bt hpa)
   have hin:=Jf (l:=l) hI.g hI.r64 hva (hR.ty hva) (hM _ hva.2 hva.1 (hA _ hva.2 hva.1 hav))
   have hval:dG g (bu g s) v=dG g s (da p s.blk):=by
    obtain ⟨v1,v2,v3⟩:=pA hVv
    unfold dG
    rw[v1,v2,v3,hkd]
    unfold cY
    rw[har]
   rw[hval]
   refine Bo ?_ (hS.rule v h0 h1 (by rw[hmt];dsimp only;omega))
   rw[n4 hlen hcb hp hd hmt]
   exact pD _ _ (.inr ⟨_,hpm,hin⟩)
  ·have hm:made v:=by
    rcases hm with h|h
    ·exact h
    ·obtain ⟨p,hp,e⟩:=List.mem_map.1 h
     exact absurd (by rw[←e];exact (hph p hp).2) hmt
   rw[om hI.g ⟨h1,h0⟩ (hV v h0 hmt) hrow]
   exact hM v h0 h1 hm
structure Bu (g:ab) (l:List bh) (s:GS) (made:Int→Prop):Prop where
 gi:bA g s
 go:s.ended=false→kb g s∧∀v:Int,0≤v→v<g.vars.length→Av g s.blk s.pc v→made v
 rng:∀v:Int,0≤v→v<g.vars.length→made v→dS (dG g s v) (lv l v)
theorem Bu.step (hS:kh g l) (hPi:mf g) {s:GS} {made:Int→Prop} (h:Bu g l s made) (he:s.ended=false):Bu g l (bu g s) fun v=>made v∨((bu g s).ended=false∧v∈dw g s):=by
 obtain ⟨hI,hA⟩:=h.go he
 have hg:=h.gi.step hR.run
 cases he':(bu g s).ended with
 |true=>
  obtain ⟨e1,e2⟩:=D1 he he'
  refine ⟨hg,fun k=>(by rw[he'] at k;cases k),fun v h0 h1 hm=>?_⟩
  have hm:made v:=by
   rcases hm with h|h
   ·exact h
   ·cases h.1
  rw[om h.gi ⟨h1,h0⟩ (e1 v) fun a _ _=>by unfold cY;rw[e2]]
  exact h.rng v h0 h1 hm
 |false=>
  have key:(∀v:Int,0≤v→v<g.vars.length→Av g (bu g s).blk (bu g s).pc v→made v∨v∈dw g s)∧∀v:Int,0≤v→v<g.vars.length→made v∨v∈dw g s→dS (dG g (bu g s) v) (lv l v):=by
   cases hx:(aQ g s.blk).insts[s.pc]? with
   |some x=>exact MInv.inst hR hS hPi hI hA h.rng he hx he'
   |none=>exact MInv.term hR hS hI hA h.rng he hx he'
  exact ⟨hg,fun _=>⟨hI.step hR he he',fun v h0 h1 ha=>(key.1 v h0 h1 ha).imp id fun k=>⟨rfl,k⟩⟩,fun v h0 h1 hm=>key.2 v h0 h1 (hm.imp id (·.2))⟩
theorem Gr (hS:kh g l) {i:uL} (hp:g.params.length≤g.vars.length) (hI:kb g (kw g i)) {v:Int} (h0:0≤v) (h1:v<g.vars.length) (hm:(aD g v).1<0) (hi:i.args.length=g.params.length):dS (dG g (kw g i) v) (lv l v):=by
 refine Bo ?_ (hS.first v h0 h1 hm)
 unfold nv
 by_cases h:v<g.params.length
 ·rw[if_pos h]
  exact vS hI.g hI.r64 ⟨h1,h0⟩ (hR.ty ⟨h1,h0⟩)
 ·rw[if_neg h]
  have e1:vi (kw g i).ints v=0:=by unfold vi kw;dsimp only;rw[mE (by omega) (by omega)];rfl
  have e2:vi (kw g i).arrs v=-1:=by unfold vi kw;dsimp only;rw[mE (by omega) (by omega)];rfl
  have e3:gb (kw g i).bools v=false:=by unfold gb kw;dsimp only;rw[mE (by omega) (by omega)];rfl
  unfold dG
  rw[e1,e2,e3]
  split
  ·exact ⟨Int.le_refl _,Int.le_refl _⟩
  ·split
   ·exact ⟨Int.le_refl _,Int.le_refl _⟩
   ·exact ⟨Int.le_refl _,Int.le_refl _⟩
theorem Bu.beg (hS:kh g l) {i:uL} (hp:g.params.length≤g.vars.length) (ht:∀j,0≤mD g j∧mD g j≤2) (hi:ec g i=0) (h64:Bj i):Bu g l (kw g i) fun v=>(aD g v).1<0:=by
 have hI:=kb.beg hR hp ht hi h64
 have hal:i.args.length=g.params.length:=Classical.byContradiction fun h=>by unfold ec at hi;rw[if_pos h] at hi;cases hi
 refine ⟨hI.g,fun _=>⟨hI,fun v h0 h1 ha=>?_⟩,fun v h0 h1 hm=>Gr hR hS hp hI h0 h1 hm hal⟩
 have hG:=hR.hE.grph
 have ha:bM g (aD g v) 0 0:=ha
 rcases ha with h|⟨e,h⟩|⟨_,h,h3⟩
 ·exact h
 ·
  exfalso
  have hz:0<g.blocks.length:=hR.hE.pos
  have hcb:=qx hz
  obtain ⟨p,hp,hd⟩:=hR.of_phi (i:=0) h hcb (v:=v) (Prod.ext e rfl)
  have hsh:=hR.run.phis _ (w3 hz) p hp
  have hj:=hR.hs.1 0 hz p hp
  have hl:0<p.from_.length:=by have:=hsh.2.1;have:=hsh.2.2.1;omega
  have hm:=hj.mem_iff.1 (w3 hl)
  exact hR.noStart ((iV hG.toEOk hG.out).1 hm)
 ·exact absurd (cG hG h3 (.root h3.rch)) h
end
section
variable {f g:ab} {rts:List Int} (hf:bm f) (hg:bm g) (hP:Gb f g rts)
include hf hg hP
omit hf hg in
theorem Gb.kind {v:Int} (h0:0≤v) (h1:v<f.vars.length):aU g v=aU f v:=by
 obtain ⟨l,hl⟩:=hP.vars
 unfold aU
 rw[hl,List.getElem?_append_left (by omega)]
theorem Gb.kind0:∀(m:Nat) (u:Int),u<m→0≤u→u<g.vars.length→aU g u=0→(0≤dF f.vars.length rts u∧dF f.vars.length rts u<f.vars.length)∧aU f (dF f.vars.length rts u)=0
 |0,u,h,h0,_,_=>by omega
 |m+1,u,h,h0,h1,hk=>by
  by_cases hn:u<f.vars.length
  ·rw[sO hn]
   exact ⟨⟨h0,hn⟩,by rw[←hP.kind h0 hn];exact hk⟩
  ·obtain ⟨i,k,x,hx,e,ho,hlt,hm,hrt⟩:=hP.back hf hg (by omega) h1
   rw[hrt]
   obtain ⟨_,hT⟩:=hg.inF hx
   refine Gb.kind0 m (dq x) (by omega) hlt.1 (by omega) ?_
   rcases ho with ho|ho
   ·exact (sK (d5 hT ho (by decide) me.2.2.1)).1.1
   ·exact (sK (d5 hT ho (by decide) me.2.2.2)).1.1
theorem IF (hpl:∀b∈f.blocks,∀y∈b.insts,y.op<25):mf g:=fun s hI i k x hat hb ha=>by
 obtain ⟨hFm,hi⟩:=hP.at hat
 obtain ⟨hF,hT⟩:=hg.inF hat
 have hav:∀u∈x.args,Av g s.blk s.pc u:=fun u hu=>fq (p:=((i:Int),(k:Int))) hg.hE (hg.av hat u hu) ha (by dsimp only;omega)
 have hrg:∀u∈x.args,u<g.vars.length∧0≤u:=fun u hu=>bN (hF.args u hu)
 generalize hL:(aQ g i).insts.take k=L at hFm
 cases hFm with
 |old hy hIm=>
  rename_i y
  have:=hpl _ (dU (by omega) hi) y hy
  have:=hIm.op
  exact ⟨fun e=>by omega,fun e=>by omega⟩
 |pi hd hla hlb hrt hr h=>
  rename_i d a b n r
  refine ⟨fun _=>?_,fun e=>(by cases e)⟩
  have hka:=d5 (k:=25) (x:=⟨25,d,[a,b],n⟩) hT rfl (by decide) me.2.2.1
  simp only[List.map_cons,List.map_nil,List.cons.injEq,and_true] at hka
  have ra:=hrg a (.head _)
  have rb:=hrg b (.tail _ (.head _))
  obtain ⟨a0,a1⟩:=hP.kind0 hf hg g.vars.length a ra.1 ra.2 ra.1 hka.1
  obtain ⟨b0,b1⟩:=hP.kind0 hf hg g.vars.length b rb.1 rb.2 rb.1 hka.2
  have va:=(pA (kC hf hg hP hI g.vars.length a ra.1 ra.2 ra.1 (hav a (.head _))).2).1
  have vb:=(pA (kC hf hg hP hI g.vars.length b rb.1 rb.2 rb.1 (hav b (.tail _ (.head _)))).2).1
  have hrel:=Iy hf hg hP hI r (by rw[hb];exact hr)
  show IA n (vi s.ints a) (vi s.ints b)
  rw[←va,←vb]
  rcases h with ⟨h1,h2,h3⟩|⟨h1,h2,h3⟩
  ·rw[h1] at a0 a1 ⊢
   rw[h2] at b0 b1 ⊢
   rw[←Ha (s:=s) a1,←Ha (s:=s) b1,h3]
   have hno:r.n=0∨r.n=1∨r.n=2:=by
    have:=(Ko hf i r hr).2
    omega
   exact ⟨hrel.lt,hrel.le,hrel.eq,fun e=>by omega,fun e=>by omega⟩
  ·rw[h1] at a0 a1 ⊢
   rw[h2] at b0 b1 ⊢
   rw[←Ha (s:=s) a1,←Ha (s:=s) b1,h3]
   have hno:r.n=0∨r.n=1∨r.n=2:=by
    have:=(Ko hf i r hr).2
    omega
   unfold kz
   rcases hno with e|e|e
   ·rw[if_pos e]
    exact ⟨fun k=>(by cases k),fun k=>(by cases k),fun k=>(by cases k),fun k=>(by cases k),fun _=>hrel.lt e⟩
   ·rw[if_neg (by omega),if_pos e]
    exact ⟨fun k=>(by cases k),fun k=>(by cases k),fun k=>(by cases k),fun _=>hrel.le e,fun k=>(by cases k)⟩
   ·rw[if_neg (by omega),if_neg (by omega)]
    exact ⟨fun k=>(by cases k),fun k=>(by cases k),fun _=>(hrel.eq e).symm,fun k=>(by cases k),fun k=>(by cases k)⟩
 |len hd hla hrt=>
  rename_i l d a b e m
  refine ⟨fun k=>(by cases k),fun _=>?_⟩
  have hka:=d5 (k:=26) (x:=⟨26,d,[a,b],0⟩) hT rfl (by decide) me.2.2.2
  simp only[List.map_cons,List.map_nil,List.cons.injEq,and_true] at hka
  obtain ⟨bk,hbk,hxk⟩:=hat
  have eb:aQ g (i:Int)=bk:=dD hbk
  rw[eb] at hL
  have hkl:k=l.length+1:=by
   have h1:=(List.getElem?_eq_some_iff.1 hxk).1
   have h2:=congrArg List.length hL
   rw[wd,w5] at h2
   simp at h2
   omega
  have hc:bk.insts[l.length]?=some ⟨18,e,[b,a],m⟩:=by
   have h2:(bk.insts.take k)[l.length]?=some ⟨18,e,[b,a],m⟩:=by rw[hL,List.getElem?_append_right (Nat.le_refl _),Nat.sub_self];rfl
   rw[List.getElem?_take] at h2
   split at h2
   ·exact h2
   ·cases h2
  have hca:bM g ((i:Int),(l.length:Int)) s.blk s.pc:=by
   have h1:bM g ((i:Int),(l.length:Int)) (i:Int) (k:Int):=.inr (.inl ⟨rfl,by dsimp only;omega⟩)
   exact fq (p:=((i:Int),(k:Int))) hg.hE h1 ha (by dsimp only;omega)
  have hp:=(hI.px i l.length _ ⟨bk,hbk,hc⟩ hca).ck (Int.le_refl 18) (show (18:Int)≤24 by decide)
  have hp:dv s (vi s.arrs b) (vi s.ints a)=true:=by
   unfold fp wn at hp
   simpa using hp
  obtain ⟨q1,q2,q3,q4⟩:=kx.1 hp
  show 0≤vi s.ints a∧vi s.ints a<dG g s b
  rw[Gi hka.2,if_neg (by omega)]
  exact ⟨q3,q4⟩
end
theorem Bv {g:ab} (hpl:∀b∈g.blocks,∀y∈b.insts,y.op<25):mf g:=fun s _ i k x hat _ _=>by
 obtain ⟨b,hb,hx⟩:=hat
 have:=hpl b (w9 hb) x (w9 hx)
 exact ⟨fun e=>by omega,fun e=>by omega⟩
end
section
open Go.Proofs.Tryz
open Go.Proofs
def zC (g:ab) (l:List bh) (s:GS) (m:List Bool) (v:Nat):Bool:=gb m v&&(decide (dG g s v<(lv l v).1)||decide ((lv l v).2<dG g s v))
def ta (e:Bool) (m:List Bool) (v:Int):List Bool:=m.set v.toNat (!e||gb m v)
def lw (m:List Bool) (e:Bool) (vs:List Int):List Bool:=vs.foldl (ta e) m
def oo (g:ab) (l:List bh):Nat→GS→List Bool→Bool
 |0,_,_=>true
 |n+1,s,m=>if (List.range g.vars.length).any (zC g l s m)=true then false else if s.ended=true then true else oo g l n (bu g s) (lw m (bu g s).ended (dw g s))
def lx (g:ab):List Bool:=(List.range g.vars.length).map fun v:Nat=>decide ((aD g (v:Int)).1<0)
def uS (g:ab) (i:uL) (n:Nat) (l:List bh):Bool:=decide (l.length=g.vars.length)&&oo g l n (kw g i) (lx g)
theorem Cw {e:Bool} {v:Int} (h0:0≤v):∀{vs:List Int} {m:List Bool},(∀u∈vs,0≤u)→gb (lw m e vs) v=true→gb m v=true∨(e=false∧v∈vs)
 |[],_,_,h=>.inl h
 |u::vs,m,hv,h=>by
  rcases Cw (vs:=vs) h0 (fun w hw=>hv w (.tail _ hw)) (show gb (lw (ta e m u) e vs) v=true from h) with k|k
  ·unfold ta gb at k
   rw[List.getElem?_set] at k
   have hu:=hv u (.head _)
   by_cases hx:u.toNat=v.toNat
   ·have huv:u=v:=by omega
    rw[if_pos hx] at k
    split at k
    ·cases e with
     |true=>left;rw[huv] at k;exact k
     |false=>exact .inr ⟨rfl,by rw[huv];exact .head _⟩
    ·cases k
   ·rw[if_neg hx] at k
    exact .inl k
  ·exact .inr ⟨k.1,.tail _ k.2⟩
section
variable {g:ab} (hR:bm g) {l:List bh}
include hR
theorem Gs (s:GS):∀v∈dw g s,0≤v:=fun v hv=>by
 unfold dw at hv
 split at hv
 ·split at hv
  ·rename_i h;rw[List.mem_singleton.1 hv];exact h
  ·cases hv
 ·split at hv
  ·cases hv
  ·obtain ⟨p,hp,rfl⟩:=List.mem_map.1 hv
   unfold aQ at hp
   cases hb:g.blocks[(fJ g s).toNat]? with
   |none=>rw[hb] at hp;cases hp
   |some b=>
    rw[hb] at hp
    exact (bN (hR.run.phis b (w9 hb) p hp).1).2
theorem Gt (hS:kh g l) (hPi:mf g):∀(n:Nat) {s:GS} {m:List Bool} {made:Int→Prop},Bu g l s made→(∀v:Int,0≤v→gb m v=true→made v)→oo g l n s m=true
 |0,_,_,_,_,_=>rfl
 |n+1,s,m,made,h,hm=>by
  unfold oo
  have h1:(List.range g.vars.length).any (zC g l s m)=false:=List.any_eq_false.2 fun v hv=>by
   have hv:=List.mem_range.1 hv
   unfold zC
   cases hg:gb m v with
   |false=>simp
   |true=>
    have:=h.rng v (by omega) (by omega) (hm v (by omega) hg)
    have h2:=this.1
    have h3:=this.2
    rw[wg (by omega),wg (by omega)]
    simp
  rw[if_neg (by rw[h1];decide)]
  split
  ·rfl
  ·rename_i he
   have he:s.ended=false:=by simpa using he
   refine Gt hS hPi n (h.step hR hS hPi he) fun v h0 hg=>?_
   exact (Cw h0 (Gs hR s) hg).imp (hm v h0) id
theorem Gu (hS:kh g l) (hPi:mf g) {i:uL} (hp:g.params.length≤g.vars.length) (ht:∀j,0≤mD g j∧mD g j≤2) (hi:ec g i=0) (h64:Bj i) (hl:l.length=g.vars.length) (n:Nat):uS g i n l=true:=by
 unfold uS
 rw[we hl,Bool.true_and]
 refine Gt hR hS hPi n (Bu.beg hR hS hp ht hi h64) fun v h0 hg=>?_
 unfold gb lx at hg
 rw[w7] at hg
 cases hr:(List.range g.vars.length)[v.toNat]? with
 |none=>rw[hr] at hg;cases hg
 |some k=>
  rw[hr] at hg
  obtain ⟨h1,h2⟩:=List.getElem?_eq_some_iff.1 hr
  rw[List.getElem_range] at h2
  have:(k:Int)=v:=by omega
  have hg:decide ((aD g (k:Int)).1<0)=true:=hg
  rw[←this]
  exact wk hg
end
theorem Gw {f g:ab} {rts:List Int} (hP:Gb f g rts) {i:uL} (hp:f.params.length≤f.vars.length) (h:ec f i=0):ec g i=0:=by
 have hb:∀q∈i.args.zipIdx,i.args.length=f.params.length→fS g i q=fS f i q:=fun q hq hl=>by
  obtain ⟨l,hv⟩:=hP.vars
  have hq2:q.2<f.vars.length:=by
   have:=(List.mem_zipIdx hq).2.1
   omega
  have e:mD g q.2=mD f q.2:=by
   unfold mD
   rw[hv,List.getElem?_append_left hq2]
  unfold fS
  simp only[e]
 unfold ec at h ⊢
 rw[hP.par]
 split at h
 ·cases h
 ·rename_i hl
  have hl:i.args.length=f.params.length:=by simpa using hl
  have e:i.args.zipIdx.any (fS g i)=i.args.zipIdx.any (fS f i):=by
   rw[w8,List.any_eq_true,List.any_eq_true]
   exact ⟨fun ⟨q,hq,k⟩=>⟨q,hq,by rw[←hb q hq hl];exact k⟩,fun ⟨q,hq,k⟩=>⟨q,hq,by rw[hb q hq hl];exact k⟩⟩
  rw[if_neg (by omega),e]
  exact h
end
section
open Go.Proofs.Tryz
open Go.Proofs Go.Lib Go.Shelf Go.RowKit
structure oq (f:ab) (W:tT) (m:Nat):Prop where
 k:KP f W.vars W.k
 vars:W.vars.length≤f.vars.length+m*(4*f.vars.length+400)
theorem oq.first (f:ab):oq f (vN f) 0:=⟨⟨Nat.le_refl _,w2 _⟩,Nat.le_add_right _ _⟩
theorem oq.step {f:ab} {W:tT} {m:Nat} (h:oq f W m) {b:Int} (ha:(jJ f b).length≤2*f.vars.length) (hi:(aQ f b).insts.length≤400):oq f (ke f W b) (m+1):=by
 have hc:=nA.blk (f:=f) (S:=dz f W b) h.k b
 have e:(dz f W b).vars.length=W.vars.length:=rfl
 have h1:=hc.vars.2
 have h2:=h.vars
 refine ⟨hc.k,?_⟩
 show (dE f (dz f W b) b).1.vars.length≤_
 rw[Nat.add_mul,Nat.one_mul]
 omega
theorem oq.all {f:ab}:∀(l:List Int) {W:tT} {m:Nat},oq f W m→(∀b∈l,(jJ f b).length≤2*f.vars.length∧(aQ f b).insts.length≤400)→oq f (l.foldl (ke f) W) (m+l.length)
 |[],_,_,h,_=>h
 |b::l,W,m,h,k=>by
  have:=oq.all l (h.step (k b (.head _)).1 (k b (.head _)).2) fun u hu=>k u (.tail _ hu)
  rw[List.length_cons,show m+(l.length+1)=m+1+l.length by omega]
  exact this
theorem oq.few {f:ab} {W:tT} {m:Nat} (h:oq f W m) (hv:f.vars.length≤100) (hm:m≤40):W.vars.length≤32100∧W.k≤3264000:=by
 obtain ⟨⟨k1,k2⟩,h2⟩:=h
 have h3:m*(4*f.vars.length+400)≤40*800:=Nat.mul_le_mul hm (by omega)
 have h4:(W.vars.length - f.vars.length)*(f.vars.length+2)≤32000*102:=Nat.mul_le_mul (by omega) (by omega)
 omega
theorem zD (x:Nat) (h:x<1000000000000):IntKind.u8.wrap (48+(x:Int).tmod 10)=((48+x % 10:Nat):Int):=by
 have h1:(x:Int).tmod 10=((x % 10:Nat):Int):=by rw[Int.tmod_eq_emod_of_nonneg (by omega)];rfl
 rw[h1]
 unfold IntKind.wrap;simp[IntKind.bits,IntKind.signed];omega
theorem tb (x:Nat) (h:x<1000000000000):strOfNums [IntKind.u8.wrap (48+(x:Int).tmod 10)]=oI [UInt8.ofNat (48+x % 10)]:=by
 rw[zD x h];rfl
theorem Mz {x:Nat} (h:x<1000000000000):IntKind.i64.wrap ((x:Int).tdiv 10)=((x / 10:Nat):Int):=by
 rw[show (x:Int).tdiv 10=((x / 10:Nat):Int) by rw[Int.tdiv_eq_ediv_of_nonneg (by omega)];rfl]
 unfold IntKind.wrap;simp[IntKind.bits,IntKind.signed];omega
theorem Gx (x:Nat):lz (48+(x:Int).tmod 10):=by
 have h1:(x:Int).tmod 10=((x % 10:Nat):Int):=by rw[Int.tmod_eq_emod_of_nonneg (by omega)];rfl
 rw[h1]
 unfold lz;omega
def mV (f:ab):Bool:=decide (f.vars.length≤512)&&(decide (f.blocks.length≤64)&&decide (eG f.blocks≤1024))
def ly (f:ab):ab:=if mV (fu f)=true then fu f else f
theorem Gy {f:ab}:mV f=true↔f.vars.length≤512∧f.blocks.length≤64∧eG f.blocks≤1024:=by
 unfold mV
 simp only[wh,wm]
def Gz (g:ab) (s:GS) (v:Int):Int:=if aU g v=0 then vi s.ints v else if aU g v=2 then (if 0≤vi s.arrs v∧vi s.arrs v<s.arrays.length then ((cY s (vi s.arrs v)).length:Int) else 0) else if gb s.bools v=true then 1 else 0
theorem IG {g:ab} {s:GS} (h:bA g s) {v:Int} (hv:v<g.vars.length∧0≤v):Gz g s v=dG g s v:=by
 have ha:=iG h hv
 unfold Gz dG
 split
 ·rfl
 ·split
  ·by_cases c:vi s.arrs v<0
   ·rw[if_neg (by omega),if_pos c]
   ·rw[if_pos ⟨by omega,ha.2⟩,if_neg c]
  ·rfl
section
variable {f:ab} (hR:bm f)
include hR
theorem GA (hpl:∀b∈f.blocks,∀y∈b.insts,y.op<25) (hW:bm (ly f)):mf (ly f):=by
 unfold ly at hW ⊢
 split
 ·rename_i h
  rw[if_pos h] at hW
  exact IF hR hW (vO hR) hpl
 ·exact Bv hpl
theorem zE {i:uL} (hp:f.params.length≤f.vars.length) (h:ec f i=0):ec (ly f) i=0:=by
 unfold ly
 split
 ·exact Gw (vO hR) hp h
 ·exact h
theorem zF (hf:small f) (hi:∀b∈f.blocks,b.insts.length≤400):small (ly f):=by
 unfold ly
 split
 ·rename_i h
  exact Br hR hf hi (Gy.1 h).1
 ·exact hf
theorem D2:∀b∈(ly f).blocks,∀x∈b.insts,bg x.num:=by
 unfold ly
 split
 ·exact Gj hR
 ·exact fun b hb x hx=>(hR.run.insts b hb x hx).2
end
end
section
open Go.Proofs.Tryz
open Go.Proofs Go.Lib Go.Shelf Go.RowKit
theorem IH:dn prog 164 5 1 1 [.int .u8 0]:=⟨_,underlying164,sizeOf5,zeroValue5,by decide,by decide,by kernel_rfl⟩
variable {E:World}
set_option maxRecDepth 20000
theorem GB {l:List UInt8}:oI l=⟨#[]⟩↔l=[]:=by
 unfold oI
 constructor
 ·intro h
  have:=congrArg ByteArray.data h
  simpa using this
 ·intro h;rw[h]
theorem GC {y:Nat} {acc:List UInt8} {d:UInt8} (h:0<y∨acc=[]):2*(y / 10)+(if d::acc=[] then 1 else 0)<2*y+(if acc=[] then 1 else 0):=by
 rw[if_neg (by simp)]
 rcases h with h|h
 ·split<;>omega
 ·rw[if_pos h];omega
theorem zG (f:ab) (hv:f.vars.length≤1000) (k:Nat) (hk:k≤100000000):aP prog E 51 [.agg (bw f),.int .i64 k] (.tup [.str (ma (fB f k)),.int .i64 ((fB f k:Nat)+1)]):=by
 have hle:=sZ f k
 refine zp func51 U (by decide) U<|ae<|y6 (cs:=_) U U U<|z8 (q8 (v:=.str _) U)<|am U<|z2<|zi<|y5 (γ:=Nat) [2] (fun j=>[(1,.i j)]) (fun j=>[]) (fun j=>k≤j∧j≤fB f k) (fun j=>fB f k+1 - j) k aL aE (⟨Nat.le_refl _,hle.1⟩) ?_
 rintro j ⟨hj0,hj1⟩
 refine zb<|zi<|ae<|z8 (q8 (v:=.str _) U)<|z2<|zb<|ae<|aa U<|am U<|z2<|zi<|y5 (γ:=Nat × List UInt8) [1,2] (fun g=>[(7,.i g.1),(6,.str (oI g.2))]) (fun g=>[]) (fun g=>tU g.1 g.2=decDigits j∧g.1<1000000000000) (fun g=>2*g.1+(if g.2=[] then 1 else 0)) (j,[]) b7 aE (⟨by unfold tU;simp,by dsimp only;omega⟩) ?_
 rintro ⟨y,acc⟩ ⟨hy,hlt⟩
 try dsimp only at *
 refine zb<|zb<|yb (γ:=Bool) [1,2,6,7] (fun u=>[(19,.bool u)]) (fun u=>[]) (fun u=>u=decide (0<y∨acc=[])) ?_ (fun _ _ h=>h) ?_
 ·have hsn:=GB (l:=acc)
  refine aW<|aa U<|be U U<|aq U<|zt (s:=16) U (fun c1=>?_) (fun c1=>?_)
  ·refine z6 U U c1<|z6 U U c1<|au U c1 U<|z2 ?_
   exact ⟨_,(by repeat (first|with_reducible exact yh _ _|refine dh.up rfl ?_|exact fC)),aL,aE,by simp_all⟩
  ·refine z7 U U c1<|z8 (yt (v:=.str _) U)<|z7 U U c1<|z8 (q7 U U)<|aw U c1 U<|z2 ?_
   exact ⟨_,(by repeat (first|with_reducible exact yh _ _|refine dh.up rfl ?_|exact fC)),aL,aE,by simp_all⟩
 ·rintro u hu
  refine zw U (fun cu=>?_) (fun cu=>?_)
  ·have hc:0<y∨acc=[]:=by rw[hu] at cu;exact wk cu
   have hal:acc.length≤40:=by
    have h1:=congrArg List.length hy
    have h2:=xp j (by omega)
    unfold tU at h1
    split at h1
    ·omega
    ·rw[w5] at h1;omega
   refine zf<|zb<|zi<|aW<|aa U<|z8 (Gv.rem U U (by decide))<|z8 (Gv.add U U (Gx _))<|z8 (ql X0 underlying5 U)<|zx (rows:=[[_]]) IH U U U U U<|z8 (Gv.convBytes (ns:=[_]) underlying164 underlying5 Zy U)<|z8 (yt (v:=.str _) U)<|z8 (Gv.addT U U (by rw[tb y hlt,oJ,oJ];simp;omega))<|z8 (q8 (v:=.str _) U)<|z2<|aW<|aa U<|z8 (Gv.quo U U (by decide))<|am U<|z2 ?_
   exact ⟨(y / 10,UInt8.ofNat (48+y % 10)::acc),b7,⟨congrArg (AV.int .i64) (Mz hlt),congrArg AV.str (by rw[tb y hlt,xn];rfl),trivial⟩,aE,⟨by dsimp only;rw[DZ hc];exact hy,by dsimp only;omega⟩,by exact GC hc⟩
  ·have hc:¬(0<y∨acc=[]):=by rw[hu] at cu;exact wl cu
   have hs:acc=decDigits j:=by
    unfold tU at hy
    rw[if_pos ⟨by omega,fun k=>hc (.inr k)⟩] at hy
    exact hy
   have hal:=xp j (by omega)
   rw[←hs] at hal
   refine y4<|ae<|z8 (yt (v:=.str _) U)<|z8 (Gv.addT U U (by rw[oJ];show 1+_≤_;omega))<|z8 (q8 (v:=.str _) U)<|z2 ?_
   have hxn:(⟨#[120]⟩:ByteArray)++oI acc=ma j:=by rw[Gl,←hs];exact xn [120] acc
   refine ae<|ad U<|z2<|zb<|ae<|ak je U Zn U U<|aI Zz U<|aj Z7 U<|aa U<|z2<|zi<|y5 (γ:=Nat × Bool) [1,2,6,33,34] (fun g=>[(35,.i g.1),(8,.bool g.2)]) (fun g=>[]) (fun g=>g.1≤f.vars.length∧g.2=(f.vars.take g.1).any (fun v=>decide (v.name=ma j))) (fun g=>f.vars.length - g.1) (0,false) b7 aE (⟨w2 _,U⟩) ?_
   rintro ⟨m,th⟩ ⟨hm,hth⟩
   try dsimp only at *
   refine ae<|ap U U<|z2<|zb<|zn U (fun cm=>?_) (fun cm=>?_)
   ·have hm2:m<f.vars.length:=by simp at cm;omega
    obtain ⟨v,hvv⟩:∃v,f.vars[m]=v:=⟨_,rfl⟩
    have hget:f.vars[m]?=some v:=by rw[qx hm2,hvv]
    have hsu:(f.vars.take (m+1)).any (fun v=>decide (v.name=ma j))=(th||decide (v.name=ma j)):=by rw[List.take_add_one,hget,List.any_append,←hth];simp
    refine zf<|zb<|zi<|ae<|z8 (bB m Z7 Yf U U U hget)<|ac isAgg48 Yf U U<|zu (cs:=[.e,.int .i64 0]) zeroValue48 U U<|fun i10=>zj Yf U U U U U U .head U<|z2<|aW<|aq U<|aq U<|zt (s:=40) U (fun ct=>?_) (fun ct=>?_)
    ·have ct:th=true:=by simpa using ct
     refine z6 U U ct<|z6 U U ct<|z6 U U ct<|z6 U U ct<|au U ct U<|ad U<|z2<|aW<|aC U U<|aa U<|z2 ?_
     exact ⟨(m+1,true),mI,b7,⟨_,(.drop (.refl _)),rfl⟩,⟨hm2,by rw[hsu,ct];rfl⟩,by dsimp only;omega⟩
    ·have ct:th=false:=by simpa using ct
     refine z7 U U ct<|z8 (zh Zt U Y6 (by decide) U U)<|z7 U U ct<|z8 (zq (c:=.str _) Yk U ⟨_,.head⟩ U)<|z7 U U ct<|z8 (yt (v:=.str _) U)<|z7 U U ct<|z8 (q7 U U)<|aw U ct U<|ad U<|z2<|aW<|aC U U<|aa U<|z2 ?_
     exact ⟨(m+1,decide (v.name=ma j)),mI,⟨rfl,(congrArg AV.bool (by rw[hxn])),trivial⟩,⟨_,(.drop (.refl _)),rfl⟩,⟨hm2,by rw[hsu,ct];rfl⟩,by dsimp only;omega⟩
   ·obtain rfl:m=f.vars.length:=by simp at cm;omega
    rw[w4] at hth
    have hth:th=gk f j:=hth
    refine y4<|ae<|aq U<|aJ U<|z2<|zw U (fun cn=>?_) (fun cn=>?_)
    ·have hn:gk f j=false:=by rw[←hth];simpa using cn
     have e:=Gm f hj0 hj1 hn
     refine ae<|z8 (yt (v:=.str _) U)<|aa U<|aC U U<|z8 (q8 (v:=.str _) U)<|am U<|z2<|zg<|qn (x:=.str _) (y:=.int _ _) U U ?_
     rw[hxn,e]
    ·have hn:gk f j=true:=by rw[←hth];simpa using cn
     have hl:=Gn f hj1 hn
     refine zf<|aW<|aa U<|aC U U<|am U<|z2 ?_
     exact ⟨j+1,aL,aL,aE,⟨by omega,by omega⟩,by omega⟩
end
section
open Go.Proofs.Tryz
open Go.Proofs
end
section
open Go.Proofs.Tryz
open Go.Proofs
theorem ay.storeGN {E:World} {P:Program} {ops:Array Oper} {K:aT→OL→Prop} {env:aT} {O O':OL} {rest:List Oper} {ty:Nat} {pos:String} {af:Array Edge} {x y:Operand} {t:TypeId} {i off k:Nat} {T:TypeId} {v:AV} {cs new:List AV} (hs:∀w,(sizeOf t).run P w=.ok 1 w) (hx:bc env x=.po i off) (hy:bc env y=v) (hv:v.sto=true) (hl:v.cs=[v]) (hl1:v.cell=true)
  (hO:fF O i (.grow k T cs) (.grow k T new) O') (hb:off<cs.length) (hnew:cs.set off v=new) (kk:ay P E ops K rest env O'):ay P E ops K (Oper.mk none (.store t x y) ty pos af none::rest) env O:=by
 subst hnew;exact ay.storeG1 hs hx hy hv hl hl1 hO hb kk
end
section
open Go.Proofs.Tryz
open Go.Proofs
section
variable {I J:G} {L:List (Nat × Obj)} {O O':OL} {i k m:Nat} {T:TypeId}
end
end
section
open Go.Proofs.Tryz
open Go.Proofs
theorem GD {α:Type} [Inhabited α] (c:fh α):∀(l:List α) (t:Nat),t<l.length*c.k→(c.vs l)[t]?=some (c.val l[t / c.k]!)[t % c.k]!
 |[],t,h=>by simp at h
 |x::l,t,h=>by
  have e:c.vs (x::l)=c.val x++c.vs l:=by unfold fh.vs;rw[List.flatMap_cons]
  rw[e]
  by_cases ht:t<c.k
  ·rw[List.getElem?_append_left (by rw[c.len];exact ht),Nat.div_eq_of_lt ht,Nat.mod_eq_of_lt ht,List.getElem!_cons_zero,qx (by rw[c.len];exact ht),getElem!_pos (c.val x) t (by rw[c.len];exact ht)]
  ·obtain ⟨s,rfl⟩:∃s,t=s+c.k:=⟨t - c.k,by omega⟩
   rw[List.getElem?_append_right (by rw[c.len];omega),c.len,Nat.add_sub_cancel,Nat.add_div_right _ c.pos,Nat.add_mod_right,List.getElem!_cons_succ]
   exact GD c l s (by rw[List.length_cons,Nat.add_mul,Nat.one_mul] at h;omega)
theorem zH (zl:List Value) (m:Nat) (h0:0<zl.length) (h1:∀u∈zl,u.oneCell'=true):madeCells zl.toArray (m*zl.length)=(List.replicate m zl).flatten.toArray:=by
 let c:fh Unit:=⟨zl.length,fun _=>zl,h0,fun _=>rfl,fun _=>h1⟩
 have e:(List.replicate m zl).flatten=c.vs (List.replicate m ()):=by
  show _=(List.replicate m ()).flatMap fun _=>zl
  rw[List.flatMap,List.map_replicate]
 rw[e]
 apply Array.ext_getElem?
 intro t
 have e3:(c.vs (List.replicate m ())).toArray[t]?=(c.vs (List.replicate m ()))[t]?:=List.getElem?_toArray
 rw[e3]
 by_cases ht:t<m*zl.length
 ·rw[GD c _ t (by rw[List.length_replicate];exact ht)]
  unfold madeCells
  rw[Array.getElem?_map,Array.getElem?_range,if_pos ht]
  show some (zl.toArray[t % zl.toArray.size]!)=some (zl[t % zl.length]!)
  simp
 ·rw[Array.getElem?_eq_none (by rw[size_madeCells];omega),List.getElem?_eq_none (by rw[c.vs_len,List.length_replicate];show m*zl.length≤t;omega)]
section
variable {E:World} {P:Program} {ops:Array Oper} {K:aT→OL→Prop} {env:aT} {O:OL} {rest:List Oper} {d ty:Nat} {pos:String} {af:Array Edge} {x y:Operand} {t e:TypeId}
theorem ay.makeZ {i:TypeInfo} {zv:Value} {m:Nat} {k1 k2:IntKind} {l l':Int} (zl:List Value) (ht:P.underlying t=some (.slice e)) (hi:P.info? e=some i) (hz:i.zero=some zv) (hzc:zv.cells=zl.toArray) (hk:i.size=zl.length) (h0:0<zl.length) (h1:∀u∈zl,u.oneCell'=true) (hx:bc env x=.int k1 l) (hy:bc env y=.int k2 l')
  (hl:l=(m:Int)) (hl':l'=(m:Int)) (hb:(i.bytes:Int)*(m:Int)≤281474976710656) (hm:m≤281474976710656) (kk:∀j,ay P E ops K rest (bz env d (.own j m)) ((j,.grow zl.length e (List.replicate m (zl.map lit)).flatten)::O)) :
  ay P E ops K (Oper.mk (some d) (.makeSlice t x y) ty pos af none::rest) env O:=fun I F ρ w g1 g2=>by
 obtain ⟨L,hL,hS⟩:=g2.2
 obtain ⟨j,hj⟩:=g2.name
 have hx:=gr g1 hx
 have hy:=gr g1 hy
 refine bY.step U ?_
 unfold lG
 subst hl hl'
 have hrun:=run_make (P:=P) w t e i zv ht hi hz k1 k2 m m (by omega) (by omega) hb (by omega)
 rw[hzc,hk,Int.toNat_natCast,zH zl m h0 h1] at hrun
 have hrun:(execOp (Go.Proofs.YtbbonnfjealmpaaGreatDoor.ev ρ) (Oper.mk (some d) (.makeSlice t x y) ty pos af none)).run P w=.ok (.value (.slice (some ⟨w.heap.size,0,none⟩) m m)) (w.alloc (.cells (List.replicate m zl).flatten.toArray e)):=by
  simp[execOp,hx,hy,hrun]
 rw[hrun]
 obtain ⟨J,e1,hle,e2,htop⟩:=hj (some w.heap.size,m)
 have hrep:RepL J (List.replicate m (zl.map lit)).flatten (List.replicate m zl).flatten:=by
  have:=eQ J (List.replicate m zl).flatten
  rwa [List.map_flatten,List.map_replicate] at this
 have hS':=hS.alloc (.cells (List.replicate m zl).flatten.toArray e)
 refine qa (fun _ _=>qb hle) _ _ _ (kk j J F _ _ ((g1.mono hle).upd d ⟨_,m,e2,rfl⟩) ⟨htop,_,⟨[(w.heap.size,.cells (List.replicate m zl).flatten.toArray e (0,0))],L,rfl,⟨some w.heap.size,m,m,_,e2,hrep,(fun u hu=>by
  obtain ⟨r,hr,hu⟩:=List.mem_flatten.1 hu
  rw[List.eq_of_mem_replicate hr] at hu
  exact h1 u hu),fe.made (by simp[Nat.mul_comm])⟩,hL.mono hle⟩,by rw[e1];exact hS'⟩)
end
theorem zI {α:Type} {k:Nat}:∀{rows:List (List α)} {j:Nat} {r:List α},(∀x∈rows,x.length=k)→j<rows.length→r.length=k→rows.flatten.take (j*k)++r++rows.flatten.drop (j*k+k)=(rows.set j r).flatten
 |[],j,r,_,h,_=>by simp at h
 |x::rows,0,r,hk,_,hr=>by
  have:=hk x (.head _)
  rw[List.set_cons_zero,List.flatten_cons,List.flatten_cons]
  rw[Nat.zero_mul,List.take_zero,List.nil_append,Nat.zero_add,←this,List.drop_left]
 |x::rows,j+1,r,hk,h,hr=>by
  have hx:=hk x (.head _)
  have ih:=zI (rows:=rows) (j:=j) (r:=r) (fun y hy=>hk y (.tail _ hy)) (by simpa using h) hr
  rw[List.set_cons_succ,List.flatten_cons,List.flatten_cons,←ih,Nat.add_mul,Nat.one_mul]
  have e1:(x++rows.flatten).take (j*k+k)=x++rows.flatten.take (j*k):=by
   rw[List.take_append,List.take_of_length_le (by omega),hx,Nat.add_sub_cancel]
  have e2:(x++rows.flatten).drop (j*k+k+k)=rows.flatten.drop (j*k+k):=by
   rw[List.drop_append,List.drop_eq_nil_of_le (by omega),hx,List.nil_append];congr 1;omega
  rw[e1,e2]
  simp only[qz]
end
section
open Go.Proofs.Tryz
open Go.Proofs Go.Lib Go.Shelf Go.RowKit
variable {E:World}
set_option maxRecDepth 20000
theorem II {α:Type} {l:List α} {i:Nat} {a:α} (h:l[i]?=some a):l.drop i=a::l.drop (i+1):=by
 obtain ⟨h1,h2⟩:=List.getElem?_eq_some_iff.1 h
 rw[←h2];exact List.drop_eq_getElem_cons h1
end
end Go.Proofs.YtbbonnfjealmpaaGreatDoor
