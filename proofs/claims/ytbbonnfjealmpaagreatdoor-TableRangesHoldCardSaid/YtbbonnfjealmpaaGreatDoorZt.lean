/- How many places make a variable, block by block. No conditions. -/
import Derived.Test.YtbbonnfjealmpaaGreatDoorZs
import Derived.Test.YtbbonnfjealmpaaGreatDoorZj
import Derived.Test.YtbbonnfjealmpaaGreatDoorZp
import Derived.Test.YtbbonnfjealmpaaGreatDoorZe
set_option linter.unusedVariables false
set_option linter.unusedSimpArgs false
set_option linter.unusedSectionVars false
namespace Go.Proofs.YtbbonnfjealmpaaGreatDoor
section
structure bm (f:ab):Prop where
 hT:∀b∈f.blocks,jK f b=true
 hS:bH f
 hE:cg f
 hs:E4 f
 hO:LE f
 run:o6 f
structure kb (f:ab) (s:GS):Prop where
 g:bA f s
 r64:ka s
 un:∀v:Int,f.params.length≤v→v<f.vars.length→(aD f v).1<0→vi s.ints v=0
 px:∀i k x,sE f i k x→bM f ((i:Int),(k:Int)) s.blk s.pc→PX s x
 br:∀c p,gC (ah f) c s.blk→bj (ah f) f.blocks.length c=[p]→(aQ f p).term.kind=1→(aQ f p).term.to0≠(aQ f p).term.to1→gb s.bools (aQ f p).term.var=decide ((aQ f p).term.to0=c)
theorem dD {f:ab} {i:Nat} {b:aK} (h:f.blocks[i]?=some b):aQ f (i:Int)=b:=by unfold aQ;rw[Int.toNat_natCast,h];rfl
theorem sM {f:ab} {s:GS} {x:aB} (hF:dC f x) {v:Int} (h0:0≤v) (hne:v≠x.dst):V (ba s x) v=V s v:=by
 unfold ba
 split
 ·split<;>rfl
 ·rename_i ho
  rw[o8]
  by_cases hd:0≤x.dst
  ·exact vL hd h0 hne
  ·exact Iu (DS hF ho (by omega)) v
theorem Cq {P:Act→Prop} (s:GS) (x:aB) (h1:∀e:Int,e≠1→P (.stop e)) (h2:∀v,P (.i v)) (h3:∀v,P (.b v)) (h4:∀v,P (.a v)) (h5:∀v,P (.all v)) (h6:P (.row (s.arrays.set (rG s x).toNat ((cY s (rG s x)).set (bG s x).toNat (vi s.ints (Aa x)))))) (h7:∀k v,k≤64→P (.new (s.arrays++[List.replicate k 0]) v)) (h8:∀l,P (.out l)):P (pW s x):=by
 unfold pW
 repeat' (first|exact h1 _ (by decide)|exact h2 _|exact h3 _|exact h4 _|exact h5 _|exact h6|exact h8 _|(refine h7 _ _ ?_;omega)|refine g9 (fun _=>?_) (fun _=>?_))
theorem uM {s:GS} (x:aB) {a:Int} (h0:0≤a) (h1:a<s.arrays.length):a<(ba s x).arrays.length∧(cY (ba s x) a).length=(cY s a).length:=by
 unfold ba
 split
 ·split<;>exact ⟨h1,rfl⟩
 rw[o8]
 refine Cq (P:=fun A=>a<(Bk s x.dst A).arrays.length∧(cY (Bk s x.dst A) a).length=(cY s a).length) s x (fun _ _=>⟨h1,U⟩) (fun _=>⟨h1,U⟩) (fun _=>⟨h1,U⟩) (fun _=>⟨h1,U⟩) (fun _=>⟨h1,U⟩) ?_ (fun k v _=>?_) (fun _=>⟨h1,U⟩)
 ·refine ⟨by show a<((s.arrays.set _ _).length:Int);rw[List.length_set];exact h1,?_⟩
  show (((s.arrays.set (rG s x).toNat ((cY s (rG s x)).set (bG s x).toNat (vi s.ints (Aa x))))[a.toNat]?).getD []).length=_
  rw[List.getElem?_set]
  split
  ·rename_i hj
   split
   ·rw[Option.getD_some,List.length_set]
    unfold cY
    rw[hj]
   ·omega
  ·rfl
 ·refine ⟨by show a<((s.arrays++[_]).length:Int);rw[w5];omega,?_⟩
  show (((s.arrays++[_])[a.toNat]?).getD []).length=_
  rw[List.getElem?_append_left (by omega)];rfl
theorem DU {s:GS} (h:ka s) (x:aB):ka (ba s x):=by
 unfold ba
 split
 ·split<;>exact h
 rw[o8]
 have hrow:∀a:Int,(cY s a).length≤64:=fun a=>by
  unfold cY
  cases e:s.arrays[a.toNat]? with
  |none=>simp
  |some r=>exact h r (w9 e)
 refine Cq (P:=fun A=>ka (Bk s x.dst A)) s x (fun _ _=>h) (fun _=>h) (fun _=>h) (fun _=>h) (fun _=>h) (fun r hr=>?_) (fun k v hk r hr=>?_) (fun _=>h)
 ·rcases gM hr with hr|hr
  ·exact h r hr
  ·rw[hr,List.length_set];exact hrow _
 ·rcases List.mem_append.1 hr with hr|hr
  ·exact h r hr
  ·rw[List.mem_singleton.1 hr,List.length_replicate];exact hk
section
variable {f:ab} (hR:bm f)
include hR
theorem bm.inF {i k:Nat} {x:aB} (h:sE f i k x):dC f x∧fz f x=true:=by
 obtain ⟨b,hb,hx⟩:=h
 have hbm:=w9 hb
 have hxm:=w9 hx
 refine ⟨gh ((hR.hS.2.2.2.2.2 b hbm).2.1 x hxm),?_⟩
 have:=hR.hT b hbm
 unfold jK at this
 simp only[wh] at this
 exact List.all_eq_true.1 this.1.2 x hxm
theorem bm.av {i k:Nat} {x:aB} (h:sE f i k x):∀v∈x.args,Av f i k v:=fun v hv=>by
 obtain ⟨b,hb,hx⟩:=h
 obtain ⟨hi,e⟩:=List.getElem?_eq_some_iff.1 hb
 obtain ⟨hk,e2⟩:=List.getElem?_eq_some_iff.1 hx
 have:=(hR.hs.2.2.2 i hi).2.1
 rw[e] at this
 exact this k hk v (by rw[e2];exact hv)
theorem bm.made {i k:Nat} {x:aB} (h:sE f i k x) (h0:0≤x.dst):aD f x.dst=((i:Int),(k:Int)):=by
 obtain ⟨b,hb,hx⟩:=h
 exact hR.hO.inst i k b x hb hx h0
theorem bm.noStart {x:Int}:(0:Int) ∉ ah f x:=fun hm=>by
 by_cases hx:0≤x∧x<f.blocks.length
 ·rw[kP hx.1 (by omega)] at hm
  have:=hR.hT (f.blocks[x.toNat]'(by omega)) (w3 _)
  unfold jK at this
  simp only[wh] at this
  have ht:=this.2
  generalize (f.blocks[x.toNat]'(by omega)).term=t at hm ht
  unfold cK at hm
  unfold eE at ht
  by_cases h0:t.kind=0
  ·rw[if_pos h0] at hm ht
   have:=List.mem_singleton.1 hm
   rw[←this] at ht;simp at ht
  ·rw[if_neg h0] at hm ht
   by_cases h1:t.kind=1
   ·rw[if_pos h1] at hm ht
    simp only[wh,Bool.not_eq_true',decide_eq_false_iff_not] at ht
    split at hm
    ·have:=List.mem_singleton.1 hm;exact ht.1.2 this.symm
    ·rcases List.mem_cons.1 hm with e|hm
     ·exact ht.1.2 e.symm
     ·exact ht.2 (List.mem_singleton.1 hm).symm
   ·rw[if_neg h1] at hm;cases hm
 ·rw[eN hx] at hm;cases hm
theorem bm.pred {c p:Int} (h:bj (ah f) f.blocks.length c=[p]):c∈ah f p∧∀q,c∈ah f q→q=p:=by
 have key:∀q,q∈bj (ah f) f.blocks.length c↔c∈ah f q:=fun q=>iV hR.hE.grph.toEOk (fun x hx=>eN hx)
 refine ⟨(key p).1 (by rw[h];exact .head _),fun q hq=>?_⟩
 have:=(key q).2 hq
 rw[h] at this
 exact List.mem_singleton.1 this
theorem bm.one {c p:Int} (hc:nD (ah f) c) (h:bj (ah f) f.blocks.length c=[p]):c≠0∧gC (ah f) p c∧p≠c:=by
 obtain ⟨h1,h2⟩:=hR.pred h
 have h0:c≠0:=fun e=>hR.noStart (e▸h1)
 refine ⟨h0,gC.of_preds hc h0 fun q hq he=>?_,fun e=>?_⟩
 ·rw[h2 q he] at hq ⊢
  exact .refl hq
 ·subst e
  have:∀b,jZ (ah f) (fun _=>True) 0 b→b≠p:=fun b hw=>by
   induction hw with
   |refl _=>exact fun e=>h0 e.symm
   |@step b d _ he _ ih=>exact fun e=>ih (h2 b (e▸he))
  exact this p hc rfl
theorem bm.brAv {c p:Int} (hc:nD (ah f) c) (h:bj (ah f) f.blocks.length c=[p]) (hk:(aQ f p).term.kind=1):Av f p (fA f p) (aQ f p).term.var∧0≤(aQ f p).term.var:=by
 obtain ⟨h1,h2⟩:=hR.pred h
 have hp:0≤p∧p<f.blocks.length:=Classical.byContradiction fun hn=>by rw[eN hn] at h1;cases h1
 obtain ⟨j,rfl⟩:∃j:Nat,p=(j:Int):=⟨p.toNat,by omega⟩
 have hj:f.blocks[j]?=some (f.blocks[j]'(by omega)):=qx (by omega)
 have:=(hR.hs.2.2.2 j (by omega)).2.2
 rw[dD hj] at hk ⊢
 rw[ky hj]
 refine ⟨this.resolve_left (by omega),?_⟩
 have ht:=hR.run.term _ (w3 (show j<f.blocks.length by omega))
 unfold bJ at ht
 rw[if_neg (by omega),if_pos hk] at ht
 simp only[wh] at ht
 exact (bN ht.1.1).2
theorem bm.brOut {c p b:Int} (hc:nD (ah f) c) (h:bj (ah f) f.blocks.length c=[p]) {v:Int} (hv:Av f p (fA f p) v) (hb:(aD f v).1=b) (h0:0≤b) (hd:gC (ah f) c b):False:=by
 obtain ⟨_,h2,h3⟩:=hR.one hc h
 have hG:=hR.hE.grph
 rcases hv with hv|⟨e,_⟩|⟨_,_,hv⟩
 ·omega
 ·rw[←e,hb] at h2 h3
  exact h3 (cG hG h2 hd)
 ·rw[hb] at hv
  exact h3 (cG hG h2 (hd.trans hv))
end
end
section
theorem Cr (s:GS) (x:aB):(ba s x).blk=s.blk∧(ba s x).pc=s.pc:=by
 unfold ba
 split
 ·split<;>exact ⟨rfl,rfl⟩
 ·rw[o8];cases pW s x<;>exact ⟨rfl,rfl⟩
theorem kc {s:GS} {v:Int} (h0:0≤v):∀(l:List cZ) (t:GS),(∀p∈l,0≤p.dst∧p.dst≠v)→V (l.foldl (assign s) t) v=V t v
 |[],_,_=>rfl
 |p::l,t,h=>by
  rw[List.foldl_cons,kc h0 l _ fun q hq=>h q (.tail _ hq),ny]
  exact vL (h p (.head _)).1 h0 fun e=>(h p (.head _)).2 e.symm
theorem iH (s:GS):∀(l:List cZ) (t:GS),(l.foldl (assign s) t).arrays=t.arrays∧(l.foldl (assign s) t).ended=t.ended
 |[],_=>⟨rfl,rfl⟩
 |p::l,t=>by rw[List.foldl_cons];exact iH s l (assign s t p)
theorem yI (t:fg) (g:Bool) (h:¬t.kind=0→t.kind=1):(if t.kind=0∨g=true then t.to0 else t.to1)∈cK t∧(t.kind=1→t.to0≠t.to1→g=decide (t.to0=if t.kind=0∨g=true then t.to0 else t.to1)):=by
 unfold cK
 by_cases h0:t.kind=0
 ·simp[h0]
 ·have h1:=h h0
  by_cases e:t.to0=t.to1
  ·simp[h1,e]
  ·cases g<;>simp[h1,e]
section
variable {f:ab} (hR:bm f)
include hR
theorem kb.inst {s:GS} (hI:kb f s) (he:s.ended=false) {x:aB} (hx:(aQ f s.blk).insts[s.pc]?=some x) (he':(bu f s).ended=false):kb f (bu f s):=by
 have hg:=hI.g.step hR.run
 obtain ⟨i,hi⟩:∃i:Nat,s.blk=(i:Int):=⟨s.blk.toNat,by have:=hI.g.b0;omega⟩
 have hil:i<f.blocks.length:=by have:=hI.g.b1;omega
 have hb:=qx hil
 have hat:sE f i s.pc x:=⟨_,hb,by rw[hi,dD hb] at hx;exact hx⟩
 obtain ⟨hF,hTx⟩:=hR.inF hat
 have hst:bu f s=ba { s with pc:=s.pc+1,st:=s.st+1 } x:=by unfold bu;rw[hx]
 obtain ⟨s0,hs0⟩:∃s0:GS,{ s with pc:=s.pc+1,st:=s.st+1 }=s0:=⟨_,rfl⟩
 have e0:s0.ended=false∧s0.blk=s.blk∧s0.pc=s.pc+1∧s0.arrays=s.arrays∧(∀v,V s0 v=V s v):=by rw[←hs0];exact ⟨he,rfl,rfl,rfl,fun _=>rfl⟩
 have g0:bA f s0:=by
  rw[←hs0]
  have:=hI.g
  exact ⟨this.li,this.lb,this.la,this.i64,this.arr,this.ls,this.lr,this.r64,this.lt,this.b0,this.b1,(List.getElem?_eq_some_iff.1 hx).1⟩
 rw[hs0] at hst
 rw[hst] at hg he' ⊢
 obtain ⟨p1,p2⟩:=Cr s0 x
 have hV:∀v:Int,0≤v→v≠x.dst→V (ba s0 x) v=V s v:=fun v h0 h1=>by rw[sM hF h0 h1];exact e0.2.2.2.2 v
 have mk:∀v:Int,0≤v→v=x.dst→aD f v=((i:Int),(s.pc:Int)):=fun v h0 e=>by rw[e];exact hR.made hat (by omega)
 have avn:∀v:Int,0≤v→Av f s.blk s.pc v→v≠x.dst:=fun v h0 ha e=>by
  unfold Av at ha
  rw[mk v h0 e,hi] at ha
  rcases ha with h|⟨_,h⟩|⟨_,h,_⟩
  ·dsimp only at h;omega
  ·dsimp only at h;omega
  ·exact h rfl
 refine ⟨hg,DU (s:=s0) (by unfold ka;rw[e0.2.2.2.1];exact hI.r64) x,fun v h1 h2 h3=>?_,fun j k y hy ha=>?_,fun c p hd hp hk ht=>?_⟩
 ·have h0:0≤v:=by omega
  have hne:v≠x.dst:=fun e=>by rw[mk v h0 e] at h3;dsimp only at h3;omega
  have:=hV v h0 hne
  unfold V at this
  simp only[Prod.mk.injEq] at this
  rw[this.1];exact hI.un v h1 h2 h3
 ·rw[p1,p2,e0.2.1,e0.2.2.1,hi] at ha
  obtain ⟨hFy,_⟩:=hR.inF hy
  by_cases hjk:(j:Int)=(i:Int)∧(k:Int)=(s.pc:Int)
  ·have ej:j=i:=by omega
   have ek:k=s.pc:=by omega
   subst ej ek
   have:y=x:=hy.one hat
   subst this
   refine PX.made g0 hF e0.1 he' fun v hv=>?_
   have h0:=(bN (hF.args v hv)).2
   exact avn v h0 (by rw[hi];exact hR.av hat v hv)
  ·have ha':bM f ((j:Int),(k:Int)) s.blk s.pc:=by
    rw[hi]
    rcases sF.1 (show bM f ((j:Int),(k:Int)) (i:Int) ((s.pc:Int)+1) from ha) with h|h
    ·exact h
    ·exact absurd h hjk
   have hP:=hI.px j k y hy ha'
   refine PX.same hI.g hg hFy ⟨fun h0=>?_,fun v hv=>?_,fun a h0 h1=>?_⟩ hP
   ·refine hV _ h0 fun e=>hjk ?_
    have h1:=hR.made hy h0
    rw[mk _ h0 e] at h1
    simp only[Prod.mk.injEq] at h1
    exact ⟨h1.1.symm,h1.2.symm⟩
   ·have h0:=(bN (hFy.args v hv)).2
    refine hV v h0 (avn v h0 ?_)
    exact fq (p:=((j:Int),(k:Int))) hR.hE (hR.av hy v hv) ha' (by dsimp only;omega)
   ·have:=uM (s:=s0) x h0 (by rw[e0.2.2.2.1];exact h1)
    refine ⟨this.1,this.2.trans ?_⟩
    unfold cY
    rw[e0.2.2.2.1]
 ·rw[p1,e0.2.1] at hd
  have hc:=hd.rch
  obtain ⟨hav,h0⟩:=hR.brAv hc hp hk
  have hne:(aQ f p).term.var≠x.dst:=fun e=>hR.brOut hc hp hav (b:=s.blk) (by rw[mk _ h0 e,hi]) hI.g.b0 hd
  have:=hV _ h0 hne
  unfold V at this
  simp only[Prod.mk.injEq] at this
  rw[this.2.1]
  exact hI.br c p hd hp hk ht
theorem kb.term {s:GS} (hI:kb f s) (he:s.ended=false) (hx:(aQ f s.blk).insts[s.pc]?=none) (he':(bu f s).ended=false):kb f (bu f s):=by
 have hg:=hI.g.step hR.run
 obtain ⟨i,hi⟩:∃i:Nat,s.blk=(i:Int):=⟨s.blk.toNat,by have:=hI.g.b0;omega⟩
 have hil:i<f.blocks.length:=by have:=hI.g.b1;omega
 have hb:=qx hil
 have hbm:=w3 hil
 have hpc:(s.pc:Int)=fA f s.blk:=by
  have h1:=hI.g.pc
  have h2:=List.getElem?_eq_none_iff.1 hx
  rw[hi,ky hb]
  rw[hi,dD hb] at h1 h2
  omega
 have hk:¬(aQ f s.blk).term.kind=2:=fun h=>by
  unfold bu at he'
  rw[hx] at he'
  dsimp only at he'
  rw[if_pos h] at he'
  cases he'
 have hst:bu f s=fa f { s with st:=s.st+1 } (fJ f s):=by
  unfold bu;rw[hx];dsimp only;rw[if_neg hk]
 obtain ⟨s0,hs0⟩:∃s0:GS,{ s with st:=s.st+1 }=s0:=⟨_,rfl⟩
 have e0:s0.ended=false∧s0.blk=s.blk∧s0.arrays=s.arrays∧(∀v,V s0 v=V s v):=by rw[←hs0];exact ⟨he,rfl,rfl,fun _=>rfl⟩
 have htm:=hR.run.term _ (dU hI.g.b0 hI.g.b1)
 have hends:ah f s.blk=cK (aQ f s.blk).term:=by rw[hi,m6 hil,dD hb]
 obtain ⟨t0',t1'⟩:=vK htm hk
 obtain ⟨c,hcn⟩:∃c,fJ f s=c:=⟨_,rfl⟩
 have hmem:c∈ah f s.blk∧((aQ f s.blk).term.kind=1→(aQ f s.blk).term.to0≠(aQ f s.blk).term.to1→gb s.bools (aQ f s.blk).term.var=decide ((aQ f s.blk).term.to0=c)):=by
  rw[hends,←hcn]
  exact yI _ _ fun h0=>(t1' h0).1
 obtain ⟨hce,hbv⟩:=hmem
 have hcr:0≤c∧c<f.blocks.length:=by
  have:=kZ hR.run hI.g hk
  rw[hcn] at this
  exact this
 obtain ⟨to,rfl⟩:∃to:Nat,c=(to:Int):=⟨c.toNat,by omega⟩
 have htl:to<f.blocks.length:=by omega
 have hcb:=qx htl
 rw[hcn,hs0] at hst
 rw[hst] at hg he' ⊢
 unfold fa at hg he' ⊢
 split at he'
 case isFalse=>cases he'
 rename_i hall
 rw[if_pos hall] at hg ⊢
 rw[dD hcb] at hg ⊢
 have hph:∀p∈(f.blocks[to]'htl).phis,0≤p.dst∧aD f p.dst=((to:Int),-1):=fun p hp=>by
  have:=hR.run.phis _ (w3 htl) p hp
  exact ⟨(bN this.1).2,hR.hO.phi to _ p hcb hp⟩
 have hV:∀v:Int,0≤v→¬aD f v=((to:Int),-1)→V (goG ((f.blocks[to]'htl).phis.foldl (assign s0) s0) to) v=V s v:=fun v h0 h1=>by
  show V ((f.blocks[to]'htl).phis.foldl (assign s0) s0) v=_
  rw[kc h0 _ _ fun p hp=>⟨(hph p hp).1,fun e=>h1 (by rw[←e];exact (hph p hp).2)⟩]
  exact e0.2.2.2 v
 have har:(goG ((f.blocks[to]'htl).phis.foldl (assign s0) s0) to).arrays=s.arrays:=(iH s0 _ _).1.trans e0.2.2.1
 have hrch:nD (ah f) (to:Int):=hR.hs.2.1 to htl
 have hirch:nD (ah f) s.blk:=by rw[hi];exact hR.hs.2.1 i hil
 have hG:=hR.hE.grph
 refine ⟨hg,by unfold ka;rw[har];exact hI.r64,fun v h1 h2 h3=>?_,fun j k y hy ha=>?_,fun d p hd hp hk1 ht=>?_⟩
 ·have:=hV v (by omega) (fun e=>by rw[e] at h3;dsimp only at h3;omega)
  unfold V at this
  simp only[Prod.mk.injEq] at this
  rw[this.1];exact hI.un v h1 h2 h3
 ·have ha:bM f ((j:Int),(k:Int)) (to:Int) 0:=ha
  obtain ⟨hFy,_⟩:=hR.inF hy
  have hjt:(j:Int)≠(to:Int)∧gC (ah f) (j:Int) (to:Int):=by
   rcases ha with h|⟨_,h⟩|⟨_,h,h'⟩
   ·dsimp only at h;omega
   ·dsimp only at h;omega
   ·exact ⟨h,h'⟩
  have ha':bM f ((j:Int),(k:Int)) s.blk s.pc:=by
   rw[hpc]
   refine sG hirch hce (k:=0) (by omega) ha (fun e=>?_) (fun _=>by dsimp only;omega)
   obtain ⟨B,h1,h2⟩:=hy
   dsimp only at e ⊢
   rw[←e,ky h1]
   have:=(List.getElem?_eq_some_iff.1 h2).1
   omega
  have hP:=hI.px j k y hy ha'
  refine PX.same hI.g hg hFy ⟨fun h0=>?_,fun v hv=>?_,fun a h0 h1=>?_⟩ hP
  ·refine hV _ h0 fun e=>?_
   rw[hR.made hy h0] at e
   simp only[Prod.mk.injEq] at e
   omega
  ·have h0:=(bN (hFy.args v hv)).2
   refine hV v h0 fun e=>?_
   have hv:=hR.av hy v hv
   unfold Av at hv
   rw[e] at hv
   rcases hv with h|⟨h,_⟩|⟨_,_,h⟩
   ·dsimp only at h;omega
   ·exact hjt.1 h.symm
   ·exact hjt.1 (cG hG hjt.2 h)
  ·refine ⟨by rw[har];exact h1,?_⟩
   unfold cY
   rw[har]
 ·have hd:gC (ah f) d (to:Int):=hd
  have hdr:=hd.rch
  obtain ⟨hav,h0⟩:=hR.brAv hdr hp hk1
  have hne:¬aD f (aQ f p).term.var=((to:Int),-1):=fun e=>hR.brOut hdr hp hav (b:=(to:Int)) (by rw[e]) (by omega) hd
  have:=hV _ h0 hne
  unfold V at this
  simp only[Prod.mk.injEq] at this
  rw[this.2.1]
  by_cases e:d=(to:Int)
  ·subst e
   have:=(hR.pred hp).2 s.blk hce
   rw[←this] at hk1 ht ⊢
   exact hbv hk1 ht
  ·exact hI.br d p (hd.pred hirch hce e) hp hk1 ht
theorem kb.step {s:GS} (hI:kb f s) (he:s.ended=false) (he':(bu f s).ended=false):kb f (bu f s):=by
 cases h:(aQ f s.blk).insts[s.pc]? with
 |none=>exact hI.term hR he h he'
 |some x=>exact hI.inst hR he h he'
end
end
section
theorem qH {f:ab} {v:Int} {y:aB} (h:eg f v=some y):∃j k:Nat,sE f j k y∧y.dst=v∧aD f v=((j:Int),(k:Int)):=by
 unfold eg at h
 split at h
 ·rename_i h0
  obtain ⟨i,b,h1,h2,h3⟩:=hU h0.1
  rcases h3 with ⟨_,_,_,h4⟩|⟨k,x,h4,h5,h6⟩
  ·omega
  ·rw[h2,h6,Int.toNat_natCast,Int.toNat_natCast,h1] at h
   have h:b.insts[k]?=some y:=h
   rw[h4] at h
   cases h
   exact ⟨i,k,⟨b,h1,h4⟩,h5,Prod.ext h2 h6⟩
 ·cases h
section
variable {f:ab} (hR:bm f)
include hR
end
end
section
structure KB (f:ab) (K:KS):Prop where
 fac:∀q∈K.l,Kh (f.vars.length+1) q∧(-Co≤q.c∧q.c≤Co)
 len:K.l.length≤8192
def yJ (f:ab) (v:Int):Prop:=0≤v∧v≤f.vars.length
section
variable {f:ab} {K:KS}
theorem F5 {v:Int} (h:v<f.vars.length∧0≤v):yJ f v:=⟨h.2,by omega⟩
end
end
section
def Cs (f:ab) (v:Int):Nat:=if 0≤(aD f v).1∧0≤(aD f v).2 then (gi (b9 (ah f) f.blocks.length) (aD f v).1).toNat*1025+(aD f v).2.toNat+1 else 0
theorem Ct:∀(l:List aK) (b:aK),b∈l→b.insts.length≤eG l
 |c::l,b,h=>by
  have e:eG (c::l)=c.phis.length+c.insts.length+eG l:=by unfold eG;simp
  rcases List.mem_cons.1 h with rfl|h
  ·omega
  ·have:=Ct l b h;omega
section
variable {f:ab} (hR:bm f)
include hR
theorem bm.insts {i k:Nat} {x:aB} (h:sE f i k x):k<1024∧i<f.blocks.length:=by
 obtain ⟨b,hb,hx⟩:=h
 have h1:=Ct _ _ (w9 hb)
 have h2:=hR.hS.2.2.2.2.1
 have h3:=(List.getElem?_eq_some_iff.1 hx).1
 exact ⟨by omega,(List.getElem?_eq_some_iff.1 hb).1⟩
theorem bm.nblk:f.blocks.length≤64:=by
 have h:=hR.hS.1
 unfold nU at h
 simp only[Bool.or_eq_false_iff,decide_eq_false_iff_not] at h
 omega
theorem bm.lev {i:Nat} (hi:i<f.blocks.length):0≤gi (b9 (ah f) f.blocks.length) (i:Int)∧gi (b9 (ah f) f.blocks.length) (i:Int)<f.blocks.length:=by
 have hG:=hR.hE.grph
 have hm:=(bQ hG.toEOk (i:Int)).2 (hR.hs.2.1 i hi)
 have:=hG.lev_nn hm
 have:=Az hG hm
 have:=hG.at_lt hm
 have:=fZ hG
 omega
theorem bm.rk_arg {v:Int} {y:aB} (h:eg f v=some y):∀a∈y.args,Cs f a<Cs f v:=fun a ha=>by
 obtain ⟨j,k,hat,hd,hm⟩:=qH h
 have hav:=hR.av hat a ha
 have hG:=hR.hE.grph
 have ev:Cs f v=(gi (b9 (ah f) f.blocks.length) (j:Int)).toNat*1025+k+1:=by
  unfold Cs;rw[hm,if_pos ⟨by dsimp only;omega,by dsimp only;omega⟩];rfl
 rw[ev]
 unfold Cs
 split
 ·rename_i h0
  obtain ⟨i,b,h1,h2,h3⟩:=hU h0.1
  rcases h3 with ⟨_,_,_,h4⟩|⟨q,x,h4,h5,h6⟩
  ·omega
  ·have hat2:sE f i q x:=⟨b,h1,h4⟩
   have hb:=hR.insts hat2
   unfold Av at hav
   have hm2:aD f a=((i:Int),(q:Int)):=Prod.ext h2 h6
   rw[hm2] at hav ⊢
   have l1:=hR.lev hb.2
   have l2:=hR.lev (hR.insts hat).2
   rcases hav with g|⟨g1,g2⟩|⟨_,g1,g2⟩
   ·dsimp only at g;omega
   ·dsimp only at g1 g2 ⊢
    rw[g1,Int.toNat_natCast];omega
   ·dsimp only at g1 g2 ⊢
    have hmj:=(bQ hG.toEOk (j:Int)).2 g2.1
    have hla:=hG.lev_anc hmj ((hG.dom_iff hmj).1 g2)
    have:gi (b9 (ah f) f.blocks.length) (i:Int)<gi (b9 (ah f) f.blocks.length) (j:Int):=by
     rcases Int.lt_or_le (gi (b9 (ah f) f.blocks.length) (i:Int)) (gi (b9 (ah f) f.blocks.length) (j:Int)) with h|h
     ·exact h
     ·exact absurd (hla.2.2 h) g1
    rw[Int.toNat_natCast];omega
 ·omega
theorem bm.rk_low (v:Int):Cs f v<100000:=by
 unfold Cs
 split
 ·rename_i h0
  obtain ⟨i,b,h1,h2,h3⟩:=hU h0.1
  rcases h3 with ⟨_,_,_,h4⟩|⟨q,x,h4,h5,h6⟩
  ·omega
  ·have hat2:sE f i q x:=⟨b,h1,h4⟩
   have hb:=hR.insts hat2
   have l1:=hR.lev hb.2
   have:=hR.nblk
   rw[h2,h6,Int.toNat_natCast]
   omega
 ·omega
theorem bm.madeF {v:Int} {y:aB} (h:eg f v=some y):dC f y∧fz f y=true∧y.dst=v:=by
 obtain ⟨j,k,hat,hd,_⟩:=qH h
 exact ⟨(hR.inF hat).1,(hR.inF hat).2,hd⟩
def DV (f:ab) (r:sH):Prop:=(yJ f r.a∧yJ f r.b)∧(0≤r.n∧r.n≤2)
omit hR in
theorem sN {q:ia} (h:∀r∈q.out,DV f r) {a b n:Int} (hr:DV f ⟨a,b,n⟩):∀r∈(ft q a b n).out,DV f r:=by
 unfold ft
 split
 ·exact h
 ·intro r hm
  rcases List.mem_append.1 hm with hm|hm
  ·exact h r hm
  ·rw[List.mem_singleton.1 hm];exact hr
theorem yK:∀(n:Nat) (q:ia) (c:Int) (is:Bool),(∀r∈q.out,DV f r)→∀r∈(gv f n q c is).out,DV f r
 |0,q,_,_,h=>h
 |n+1,q,c,is,h=>by
  unfold gv
  split
  ·exact h
  split
  ·exact h
  rename_i x hx
  obtain ⟨hF,_,_⟩:=hR.madeF hx
  have a0:∀{k:Int},x.op=k→0<([0,1,2,2,2,2,2,2,2,2,1,2,1,2,3,1,0,1,2,1,1,2,2,2,1,2,2][k.toNat]?).getD 0→yJ f (dq x):=fun e h=>F5 (hF.a0 (by rw[hF.cnt e];exact h))
  have a1:∀{k:Int},x.op=k→1<([0,1,2,2,2,2,2,2,2,2,1,2,1,2,3,1,0,1,2,1,1,2,2,2,1,2,2][k.toNat]?).getD 0→yJ f (eU x):=fun e h=>F5 (hF.a1 (by rw[hF.cnt e];exact h))
  split
  ·exact yK n ⟨_,_⟩ _ _ h
  split
  ·exact yK n ⟨_,_⟩ _ _ h
  split
  ·split
   ·exact yK n _ _ _ (yK n ⟨_,_⟩ _ _ h)
   ·exact h
  split
  ·rename_i e
   split
   ·exact sN (q:=⟨q.seen++[(c,is)],q.out⟩) h ⟨⟨a0 e (by decide),a1 e (by decide)⟩,by dsimp only;omega⟩
   ·exact sN (q:=⟨q.seen++[(c,is)],q.out⟩) h ⟨⟨a1 e (by decide),a0 e (by decide)⟩,by dsimp only;omega⟩
  split
  ·rename_i e
   split
   ·exact sN (q:=⟨q.seen++[(c,is)],q.out⟩) h ⟨⟨a0 e (by decide),a1 e (by decide)⟩,by dsimp only;omega⟩
   ·exact sN (q:=⟨q.seen++[(c,is)],q.out⟩) h ⟨⟨a1 e (by decide),a0 e (by decide)⟩,by dsimp only;omega⟩
  split
  ·rename_i e
   split
   ·exact sN (q:=⟨q.seen++[(c,is)],q.out⟩) h ⟨⟨a0 e (by decide),a1 e (by decide)⟩,by dsimp only;omega⟩
   ·exact h
  ·exact h
theorem Ko (i:Int):∀r∈jJ f i,DV f r:=by
 unfold jJ
 split
 ·split
  ·exact yK hR _ _ _ _ fun r hr=>(by cases hr)
  ·exact fun r hr=>(by cases hr)
 ·exact fun r hr=>(by cases hr)
end
end
section
def Mv (x:aB):Bool:=decide (18≤x.op∧x.op≤24)
section
variable {f:ab} (hD:∀b∈f.blocks,∀x∈b.insts,Mv x=true→x.dst<0)
include hD
end
section
variable {f:ab}
end
end
section
theorem mE {α β:Type} {g:Nat→α→β} {d:β} {n:Nat} {l:List α} {v:Nat} (hl:l.length≤v) (hv:v<n):(d7 g d n l)[v]?=some d:=by
 unfold d7
 rw[List.getElem?_append_right (by simpa using hl),List.getElem?_replicate,if_pos (by simp;omega)]
section
variable {f:ab} (hR:bm f)
include hR
theorem kb.beg {i:uL} (hp:f.params.length≤f.vars.length) (ht:∀j,0≤mD f j∧mD f j≤2) (hi:ec f i=0) (h64:Bj i):kb f (kw f i):=by
 obtain ⟨g,_⟩:=bA.beg hR.run hp ht hi h64
 have hG:=hR.hE.grph
 have hal:i.args.length=f.params.length:=by
  unfold ec at hi
  split at hi
  ·cases hi
  ·rename_i h;exact Classical.not_not.1 h
 have hr:∀r∈i.arrays,r.length≤64:=by
  unfold ec at hi
  split at hi
  ·cases hi
  split at hi
  ·cases hi
  split at hi
  ·cases hi
  split at hi
  ·cases hi
  rename_i h
  intro r hr
  refine Classical.byContradiction fun hn=>h ?_
  exact List.any_eq_true.2 ⟨r,hr,we (by omega)⟩
 refine ⟨g,hr,fun v h1 h2 h3=>?_,fun j k x hx ha=>?_,fun c p hd hp hk ht=>?_⟩
 ·show vi (kw f i).ints v=0
  unfold vi kw
  dsimp only
  rw[mE (by omega) (by omega)];rfl
 ·have ha:bM f ((j:Int),(k:Int)) 0 0:=ha
  rcases ha with h|⟨_,h⟩|⟨_,h,h3⟩
  ·dsimp only at h;omega
  ·dsimp only at h;omega
  ·exact absurd (cG hG h3 (.root h3.rch)) h
 ·have hd:gC (ah f) c 0:=hd
  have:=cG hG hd (.root hd.rch)
  subst this
  exact absurd rfl (hR.one hd.rch hp).1
end
end
section
end
section
def ag (k:Int):List (Int × AV)→Option AV
 |[]=>none
 |(k',x)::es=>if k=k' then some x else ag k es
section
variable {E:World} {P:Program} {ops:Array Oper} {K:aT→OL→Prop} {env:aT} {O O' O'':OL} {rest:List Oper} {n:Nat}
variable {d ty:Nat} {pos:String} {af:Array Edge} {x y z:Operand} {t u e T kt:TypeId} {b:Nat}
end
end
section
abbrev K4:=Int × Int × Int × Int
def v4 (k:K4):Value:=.agg #[.int .i64 k.1,.int .i64 k.2.1,.int .i64 k.2.2.1,.int .i64 k.2.2.2]
def kf (k:K4):List (K4 × Int)→Nat→Option (Nat × Int)
 |[],_=>none
 |(k',v)::es,i=>if k=k' then some (i,v) else kf k es (i+1)
section
variable {P:Program} {kt:TypeId} {w:World}
end
section
variable {E:World} {P:Program} {ops:Array Oper} {K:aT→OL→Prop} {env:aT} {O O' O'':OL} {rest:List Oper} {n:Nat}
variable {d ty:Nat} {pos:String} {af:Array Edge} {x y z:Operand} {t u e T kt:TypeId} {b:Nat}
end
end
section
def Mw (x:aB):Int:=if 0<x.args.length then (x.args[0]?).getD 0 else -1
def Mx (x:aB):Int:=if 1<x.args.length then (x.args[1]?).getD 0 else -1
def LG (x:aB):K4:=if LC x.op=true∧Mx x<Mw x then (x.op,x.num,Mx x,Mw x) else (x.op,x.num,Mw x,Mx x)
structure My (f:ab) (r:Int→Int):Prop where
 same:∀i k x j q y,k4 f i k x→k4 f j q y→(LG (yG r x)=LG (yG r y)↔FX (yG r x) (yG r y)=true)
section
variable {f:ab} {r:Int→Int} {rk:Nat→Nat→Nat} (hH:Mu f rk) (hr:LD f r) (hK:My f r)
include hH hr hK
end
end
section
section
variable {S:Int→List Int} {n:Nat} (hG:fP S n)
include hG
end
end
section
def cq {α:Type} (p:α→Bool) (l:List α) (k:Nat):Nat:=((l.take k).filter p).length
end
section
section
variable {f:ab} (hG:fP (ah f) f.blocks.length) (hall:∀j:Int,0≤j→j<f.blocks.length→j∈aH (ah f) f.blocks.length)
include hG hall
end
end
section
structure F6 (κ:Type) where
 av:κ→List AV
 val:κ→Array Value
 one:∀{I:G} {k:κ} {v:Value},cC I (.agg (av k)) v→v=.agg (val k)
 bits:∀k,Instr.sameBits 10000 (.agg (val k)) (.agg (val k))=true
section
variable {κ:Type} [DecidableEq κ] (c:F6 κ)
def MC (k:κ):List (κ × Int)→Nat→Option (Nat × Int)
 |[],_=>none
 |(k',v)::es,i=>if k=k' then some (i,v) else MC k es (i+1)
def LH (es:List (κ × Int)) (k:κ):Option Int:=(MC k es 0).map (·.2)
variable {c}
section
variable {P:Program} {kt:TypeId} {w:World}
end
section
variable {E:World} {P:Program} {ops:Array Oper} {K:aT→OL→Prop} {env:aT} {O O' O'':OL} {rest:List Oper} {n:Nat}
variable {d ty:Nat} {pos:String} {af:Array Edge} {x y z:Operand} {t u e T kt:TypeId} {b:Nat}
end
end
end
section
section
variable {E:Int→List Int} {n:Nat} (hE:fP E n)
include hE
end
section
variable {f:ab} (hR:bm f)
include hR
end
end
section
section
variable {f:ab} (hR:bm f)
def domF (f:ab) (a b:Int):Bool:=lS (ah f) f.blocks.length a b
def isNear (f:ab) (a b:Int):Bool:=(!decide (a=b)&&domF f a b)&&(aY f.blocks.length).all fun x=>!(!decide (x=b)&&domF f x b)||domF f x a
def nearD (f:ab) (b:Int):Int:=((aY f.blocks.length).find? fun a=>isNear f a b).getD (-1)
include hR
theorem bm.domF (a b:Int):domF f a b=true↔gC (ah f) a b:=hR.hE.grph.domB_iff a b
theorem bm.memO {b:Int} (h:0≤b∧b<f.blocks.length):b∈aH (ah f) f.blocks.length:=by
 obtain ⟨j,rfl⟩:∃j:Nat,b=(j:Int):=⟨b.toNat,by omega⟩
 exact (bQ hR.hE.grph.toEOk _).2 (hR.hs.2.1 j (by omega))
theorem bm.near_dom {b:Int} (hb:0≤b∧b<f.blocks.length) (h0:b≠0) {a:Int}:gC (ah f) a b∧a≠b↔gC (ah f) a (gi (cR (ah f) f.blocks.length) b):=by
 have hG:=hR.hE.grph
 have hm:=hR.memO hb
 obtain ⟨g1,_⟩:=hG.near_mem hm h0
 have hl:=hG.lev_near hm h0
 constructor
 ·rintro ⟨h,hne⟩
  rcases ((hG.dom_iff hm).1 h).cases' with e|⟨_,_,h3⟩
  ·exact absurd e hne
  ·exact (hG.dom_iff g1).2 h3
 ·intro h
  have ha:=(hG.dom_iff g1).1 h
  refine ⟨(hG.dom_iff hm).2 (.up h0 (hG.exact.has b hm) ha),fun e=>?_⟩
  have:=hG.lev_anc g1 ha
  rw[e] at this
  omega
theorem bm.isNear {b:Int} (hb:0≤b∧b<f.blocks.length) {a:Int}:isNear f a b=true↔b≠0∧a=gi (cR (ah f) f.blocks.length) b:=by
 have hG:=hR.hE.grph
 have hm:=hR.memO hb
 unfold Go.Proofs.YtbbonnfjealmpaaGreatDoor.isNear
 simp only[wh,Bool.not_eq_true',decide_eq_false_iff_not,wi,Bool.or_eq_true]
 constructor
 ·rintro ⟨⟨h1,h2⟩,h3⟩
  have hab:=(hR.domF a b).1 h2
  have h0:b≠0:=fun e=>by
   subst e
   exact h1 (cG hG hab (.root hab.rch))
  refine ⟨h0,?_⟩
  obtain ⟨g1,_⟩:=hG.near_mem hm h0
  have hp:=(hR.near_dom hb h0).2 (.refl ((bQ hG.toEOk _).1 g1))
  have hpr:=cQ hG.toEOk g1
  have:=h3 _ (dB.2 hpr)
  have hpa:gC (ah f) (gi (cR (ah f) f.blocks.length) b) a:=by
   rcases this with h|h
   ·rw[(hR.domF _ _).2 hp.1,wg hp.2] at h;cases h
   ·exact (hR.domF _ _).1 h
  exact cG hG ((hR.near_dom hb h0).1 ⟨hab,h1⟩) hpa
 ·rintro ⟨h0,rfl⟩
  obtain ⟨g1,_⟩:=hG.near_mem hm h0
  have hp:=(hR.near_dom hb h0).2 (.refl ((bQ hG.toEOk _).1 g1))
  refine ⟨⟨hp.2,(hR.domF _ _).2 hp.1⟩,fun x _=>?_⟩
  by_cases hx:x≠b∧gC (ah f) x b
  ·exact .inr ((hR.domF _ _).2 ((hR.near_dom hb h0).1 ⟨hx.2,hx.1⟩))
  ·left
   by_cases e:x=b
   ·simp[e]
   ·have:Go.Proofs.YtbbonnfjealmpaaGreatDoor.domF f x b=false:=by
     cases h:Go.Proofs.YtbbonnfjealmpaaGreatDoor.domF f x b with
     |false=>rfl
     |true=>exact absurd ⟨e,(hR.domF x b).1 h⟩ hx
    rw[this,Bool.and_false]
theorem bm.nearD {b:Int} (hb:0≤b∧b<f.blocks.length):nearD f b=if b=0 then -1 else gi (cR (ah f) f.blocks.length) b:=by
 have hG:=hR.hE.grph
 unfold Go.Proofs.YtbbonnfjealmpaaGreatDoor.nearD
 cases h:(aY f.blocks.length).find? fun a=>Go.Proofs.YtbbonnfjealmpaaGreatDoor.isNear f a b with
 |none=>
  by_cases h0:b=0
  ·rw[if_pos h0];rfl
  ·obtain ⟨g1,_⟩:=hG.near_mem (hR.memO hb) h0
   exact absurd ((hR.isNear hb).2 ⟨h0,rfl⟩) (List.find?_eq_none.1 h _ (dB.2 (cQ hG.toEOk g1)))
 |some a=>
  have h1:Go.Proofs.YtbbonnfjealmpaaGreatDoor.isNear f a b=true:=List.find?_some (p:=fun a=>Go.Proofs.YtbbonnfjealmpaaGreatDoor.isNear f a b) h
  obtain ⟨h0,e⟩:=(hR.isNear hb).1 h1
  rw[if_neg h0,←e];rfl
end
end
section
open Go.Proofs
def uN:Nat→Nat→List UInt8
 |0,k=>[UInt8.ofNat (48+k)]
 |n+1,k=>if k<10 then[UInt8.ofNat (48+k)] else uN n (k / 10)++[UInt8.ofNat (48+k % 10)]
def Bm (k:Nat):List UInt8:=uN k k
def ma (k:Nat):ByteArray:=⟨(120::Bm k).toArray⟩
def gk (f:ab) (k:Nat):Bool:=f.vars.any fun v=>decide (v.name=ma k)
def og (f:ab):Nat→Nat→Nat
 |0,k=>k
 |n+1,k=>if gk f k=true then og f n (k+1) else k
def fB (f:ab) (k:Nat):Nat:=og f (f.vars.length+1) k
structure pX where
 vars:List lA
 rts:List Int
 now:List Int
 k:Nat
abbrev f8:=pX × List aB
def vM (f:ab) (v:Int):Bool:=match eg f v with|some y=>decide (y.op=0)|none=>false
def jU (f:ab) (S:pX) (v:Int):pX:=⟨S.vars++[⟨ma (fB f S.k),0⟩],S.rts++[v],S.now.set v.toNat S.vars.length,fB f S.k+1⟩
def eR (f:ab) (p:f8) (v:Int) (x:aB):f8:=if vM f v=true then p else (jU f p.1 v,p.2++[⟨x.op,p.1.vars.length,x.args,x.num⟩])
def kz (n:Int):Int:=if n=0 then 4 else if n=1 then 3 else 2
def gx (f:ab) (p:f8) (r:sH):f8:=eR f (eR f p r.a ⟨25,0,[vi p.1.now r.a,vi p.1.now r.b],r.n⟩) r.b ⟨25,0,[vi p.1.now r.b,vi p.1.now r.a],kz r.n⟩
def f9 (S:pX) (x:aB):aB:=⟨x.op,x.dst,x.args.map (vi S.now),x.num⟩
def fT (f:ab) (p:f8) (x:aB):f8:=if x.op=18 then eR f (p.1,p.2++[f9 p.1 x]) (eU x) ⟨26,0,[vi p.1.now (eU x),vi p.1.now (dq x)],0⟩ else (p.1,p.2++[f9 p.1 x])
def dE (f:ab) (S:pX) (b:Int):f8:=(aQ f b).insts.foldl (fT f) ((jJ f b).foldl (gx f) (S,[]))
def fy (S:pX) (t:fg):fg:=if t.kind=0 then t else ⟨t.kind,vi S.now t.var,t.to0,t.to1⟩
structure tT where
 vars:List lA
 rts:List Int
 k:Nat
 ends:List (List Int)
 blks:List aK
def yL:aK:=⟨⟨#[]⟩,[],[],⟨0,0,0,0⟩⟩
def fU (ends:List (List Int)) (b:Int):List Int:=(ends[b.toNat]?).getD []
def dz (f:ab) (W:tT) (b:Int):pX:=⟨W.vars,W.rts,if 0≤nearD f b then fU W.ends (nearD f b) else aY f.vars.length,W.k⟩
def ke (f:ab) (W:tT) (b:Int):tT:=
 let p:=dE f (dz f W b) b
 ⟨p.1.vars,p.1.rts,p.1.k,W.ends.set b.toNat p.1.now,W.blks.set b.toNat ⟨(aQ f b).name,[],p.2,fy p.1 (aQ f b).term⟩⟩
def vN (f:ab):tT:=⟨f.vars,[],0,List.replicate f.blocks.length [],List.replicate f.blocks.length yL⟩
def gN (f:ab):Nat→Int→List Int
 |0,b=>[b]
 |n+1,b=>b::((aY f.blocks.length).filter fun k=>!decide (k=b)&&(domF f b k&&decide (nearD f k=b))).flatMap (gN f n)
def gl (f:ab):tT:=(gN f f.blocks.length 0).foldl (ke f) (vN f)
def mc (ends:List (List Int)) (p:cZ):cZ:=⟨p.dst,(p.args.zip p.from_).map fun q=>vi (fU ends q.2) q.1,p.from_⟩
def fu (f:ab):ab:=⟨(gl f).vars,f.params,(f.blocks.zip (gl f).blks).map fun q=>{ q.2 with phis:=q.1.phis.map (mc (gl f).ends) }⟩
def dF (n:Nat) (rts:List Int) (u:Int):Int:=if u<n then u else vi rts (u - n)
theorem sO {n:Nat} {rts:List Int} {u:Int} (h:u<n):dF n rts u=u:=if_pos h
theorem dg {n:Nat} {rts qs:List Int} {u:Int} (h:u<n+rts.length):dF n (rts++qs) u=dF n rts u:=by
 unfold dF
 split
 ·rfl
 ·unfold vi;rw[List.getElem?_append_left (by omega)]
theorem oh {n:Nat} {rts:List Int} {v:Int}:dF n (rts++[v]) (n+rts.length:Nat)=v:=by
 unfold dF vi
 rw[if_neg (by omega),List.getElem?_append_right (by omega)]
 have:((n+rts.length:Nat) - (n:Int)).toNat - rts.length=0:=by omega
 rw[this];rfl
structure jV (n:Nat) (vars:List lA) (rts now:List Int):Prop where
 len:now.length=n
 rt:∀v:Int,0≤v→v<n→(0≤vi now v∧vi now v<vars.length)∧dF n rts (vi now v)=v
structure pz (f:ab) (vars:List lA) (rts:List Int):Prop where
 len:vars.length=f.vars.length+rts.length
 rt:∀r∈rts,0≤r∧r<f.vars.length
 pre:∃l,vars=f.vars++l
structure Bn (n:Nat) (rts:List Int) (y x:aB):Prop where
 op:x.op=y.op
 dst:x.dst=y.dst
 num:x.num=y.num
 args:x.args.map (dF n rts)=y.args
 bnd:∀a∈x.args,0≤a∧a<(n+rts.length:Nat)
inductive jW (f:ab) (i:Int) (rts:List Int):List aB→aB→Prop
 |old {l x y} (h:y∈(aQ f i).insts) (hi:Bn f.vars.length rts y x):jW f i rts l x
 |pi {l d a b n r} (hd:(f.vars.length:Int)≤d∧d<(f.vars.length+rts.length:Nat)) (ha:0≤a∧a<d) (hb:0≤b∧b<d) (hrt:dF f.vars.length rts d=dF f.vars.length rts a) (hr:r∈jJ f i) (h:(dF f.vars.length rts a=r.a∧dF f.vars.length rts b=r.b∧n=r.n)∨(dF f.vars.length rts a=r.b∧dF f.vars.length rts b=r.a∧n=kz r.n)):jW f i rts l ⟨25,d,[a,b],n⟩
 |len {l d a b e m} (hd:(f.vars.length:Int)≤d∧d<(f.vars.length+rts.length:Nat)) (ha:0≤a∧a<d) (hrt:dF f.vars.length rts d=dF f.vars.length rts a):jW f i rts (l++[⟨18,e,[b,a],m⟩]) ⟨26,d,[a,b],0⟩
theorem Bn.up {n:Nat} {rts:List Int} {y x:aB} (h:Bn n rts y x) (qs:List Int):Bn n (rts++qs) y x:=
 ⟨h.op,h.dst,h.num,by rw[←h.args];exact List.map_congr_left fun a ha=>dg (by have:=(h.bnd a ha).2;omega),fun a ha=>⟨(h.bnd a ha).1,by have:=(h.bnd a ha).2;rw[w5];omega⟩⟩
theorem jW.up {f:ab} {i:Int} {rts:List Int} {l:List aB} {x:aB} (h:jW f i rts l x) (qs:List Int):jW f i (rts++qs) l x:=by
 cases h with
 |old h hi=>exact .old h (hi.up qs)
 |pi hd ha hb hrt hr h=>
  refine .pi ⟨hd.1,by rw[w5];omega⟩ ha hb ?_ hr ?_
  ·rw[dg (by omega),dg (by omega)];exact hrt
  ·rw[dg (by omega),dg (by omega)];exact h
 |len hd ha hrt=>
  refine .len ⟨hd.1,by rw[w5];omega⟩ ha ?_
  rw[dg (by omega),dg (by omega)];exact hrt
structure kg (f:ab) (i:Int) (base:Nat) (p:f8) (done:List aB):Prop where
 vok:pz f p.1.vars p.1.rts
 now:jV f.vars.length p.1.vars p.1.rts p.1.now
 frm:∀k x,p.2[k]?=some x→jW f i p.1.rts (p.2.take k) x
 img:∀y∈done,∃x∈p.2,Bn f.vars.length p.1.rts y x
 mkd:∀d:Int,base≤d→d<p.1.vars.length→∃x∈p.2,x.dst=d
theorem jV.set {f:ab} {S:pX} (hv:pz f S.vars S.rts) (h:jV f.vars.length S.vars S.rts S.now) {v:Int} (h0:0≤v) (h1:v<f.vars.length):jV f.vars.length (jU f S v).vars (jU f S v).rts (jU f S v).now:=by
 refine ⟨by show (S.now.set _ _).length=_;rw[List.length_set];exact h.len,fun u g0 g1=>?_⟩
 show (0≤vi (S.now.set v.toNat S.vars.length) u∧vi (S.now.set v.toNat S.vars.length) u<((S.vars++[_]).length:Nat))∧dF _ (S.rts++[v]) (vi (S.now.set v.toNat S.vars.length) u)=u
 rw[w5]
 by_cases e:u=v
 ·subst e
  rw[iA h0 (by rw[h.len];exact h1)]
  refine ⟨⟨by omega,by show (S.vars.length:Int)<(S.vars.length+1:Nat);omega⟩,?_⟩
  rw[hv.len];exact oh
 ·rw[lu h0 g0 e]
  obtain ⟨⟨r1,r2⟩,r3⟩:=h.rt u g0 g1
  refine ⟨⟨r1,by show _<((S.vars.length+1:Nat):Int);omega⟩,?_⟩
  rw[dg (by rw[←Int.natCast_add,←hv.len];exact r2)];exact r3
theorem pz.put {f:ab} {S:pX} (hv:pz f S.vars S.rts) {v:Int} (h0:0≤v) (h1:v<f.vars.length):pz f (jU f S v).vars (jU f S v).rts:=by
 obtain ⟨l,hl⟩:=hv.pre
 refine ⟨?_,fun r hr=>?_,l++[⟨ma (fB f S.k),0⟩],?_⟩
 ·show (S.vars++[_]).length=_+(S.rts++[_]).length
  rw[w5,w5,hv.len];rfl
 ·have hr:r∈S.rts++[v]:=hr
  rcases List.mem_append.1 hr with h|h
  ·exact hv.rt r h
  ·rw[List.mem_singleton.1 h];exact ⟨h0,h1⟩
 ·show S.vars++_=_
  rw[hl,qz]
theorem yM {f:ab} {i:Int} {rts:List Int} {L:List aB} {z:aB} (h:∀k x,L[k]?=some x→jW f i rts (L.take k) x) (hz:jW f i rts L z):∀k x,(L++[z])[k]?=some x→jW f i rts ((L++[z]).take k) x:=fun k x hx=>by
 by_cases hk:k<L.length
 ·rw[List.getElem?_append_left hk] at hx
  rw[List.take_append_of_le_length (by omega)]
  exact h k x hx
 ·rw[List.getElem?_append_right (by omega)] at hx
  have h0:k=L.length:=by
   have:=(List.getElem?_eq_some_iff.1 hx).1
   simp at this;omega
  subst h0
  rw[Nat.sub_self] at hx
  cases hx
  rw[List.take_left' rfl];exact hz
theorem kg.put {f:ab} {i:Int} {base:Nat} {p:f8} {done:List aB} (h:kg f i base p done) {v:Int} (h0:0≤v) (h1:v<f.vars.length) {x:aB} (hx:jW f i (p.1.rts++[v]) p.2 ⟨x.op,p.1.vars.length,x.args,x.num⟩):kg f i base (eR f p v x) done∧(∃qs,(eR f p v x).1.rts=p.1.rts++qs)∧p.1.vars.length≤(eR f p v x).1.vars.length:=by
 unfold eR
 split
 ·exact ⟨h,⟨[],(wc _).symm⟩,Nat.le_refl _⟩
 ·refine ⟨⟨h.vok.put h0 h1,jV.set h.vok h.now h0 h1,yM (fun k y hy=>(h.frm k y hy).up [v]) hx,fun y hy=>?_,fun d h2 h3=>?_⟩,⟨[v],rfl⟩,by show _≤(p.1.vars++[_]).length;rw[w5];omega⟩
  ·obtain ⟨z,hz,hi⟩:=h.img y hy
   exact ⟨z,List.mem_append_left _ hz,hi.up [v]⟩
  ·have h3:d<((p.1.vars++[_]).length:Nat):=h3
   rw[w5] at h3
   have h3:d<((p.1.vars.length+1:Nat):Int):=h3
   by_cases e:d<p.1.vars.length
   ·obtain ⟨z,hz,hd⟩:=h.mkd d h2 e
    exact ⟨z,List.mem_append_left _ hz,hd⟩
   ·exact ⟨_,List.mem_append_right _ (.head _),by show (p.1.vars.length:Int)=d;omega⟩
theorem kg.rel {f:ab} {i:Int} {base:Nat} {p:f8} {done:List aB} (h:kg f i base p done) {r:sH} (hr:r∈jJ f i) (hn:(0≤r.a∧r.a<f.vars.length)∧0≤r.b∧r.b<f.vars.length):kg f i base (gx f p r) done:=by
 obtain ⟨⟨a1,a2⟩,b1,b2⟩:=hn
 obtain ⟨⟨p1,p2⟩,p3⟩:=h.now.rt r.a a1 a2
 obtain ⟨⟨q1,q2⟩,q3⟩:=h.now.rt r.b b1 b2
 have hvl:=h.vok.len
 have hd:dF f.vars.length (p.1.rts++[r.a]) (p.1.vars.length:Nat)=r.a:=by rw[hvl];exact oh
 obtain ⟨g1,⟨qs,g2⟩,g3⟩:=h.put a1 a2 (x:=⟨25,0,[vi p.1.now r.a,vi p.1.now r.b],r.n⟩) (by
  refine .pi ⟨by omega,by rw[w5];show _<((f.vars.length+(p.1.rts.length+1):Nat):Int);omega⟩ ⟨p1,p2⟩ ⟨q1,q2⟩ ?_ hr (.inl ⟨?_,?_,U⟩)
  ·rw[hd,dg (by omega),p3]
  ·rw[dg (by omega),p3]
  ·rw[dg (by omega),q3])
 unfold gx
 generalize hp:eR f p r.a ⟨25,0,[vi p.1.now r.a,vi p.1.now r.b],r.n⟩=q at g1 g2 g3
 have hql:=g1.vok.len
 have hd2:dF f.vars.length (q.1.rts++[r.b]) (q.1.vars.length:Nat)=r.b:=by rw[hql];exact oh
 have e1:dF f.vars.length (q.1.rts++[r.b]) (vi p.1.now r.a)=r.a:=by rw[dg (by omega),g2,dg (by omega),p3]
 have e2:dF f.vars.length (q.1.rts++[r.b]) (vi p.1.now r.b)=r.b:=by rw[dg (by omega),g2,dg (by omega),q3]
 refine (g1.put b1 b2 ?_).1
 refine .pi ⟨by omega,by rw[w5];show _<((f.vars.length+(q.1.rts.length+1):Nat):Int);omega⟩ ⟨q1,by omega⟩ ⟨p1,by omega⟩ ?_ hr (.inr ⟨e2,e1,U⟩)
 rw[hd2,e2]
theorem F7 {f:ab} {S:pX} (hv:pz f S.vars S.rts) (h:jV f.vars.length S.vars S.rts S.now) {y:aB} (ha:∀a∈y.args,0≤a∧a<f.vars.length):Bn f.vars.length S.rts y (f9 S y):=by
 refine ⟨U,U,U,?_,fun a hm=>?_⟩
 ·show (y.args.map _).map _=_
  rw[List.map_map]
  refine (List.map_congr_left fun a hm=>?_).trans (List.map_id _)
  exact (h.rt a (ha a hm).1 (ha a hm).2).2
 ·obtain ⟨b,hb,rfl⟩:=List.mem_map.1 hm
  have:=(h.rt b (ha b hb).1 (ha b hb).2).1
  exact ⟨this.1,by rw[←hv.len];exact this.2⟩
theorem kg.ins {f:ab} {i:Int} {base:Nat} {p:f8} {done:List aB} (h:kg f i base p done) {y:aB} (hy:y∈(aQ f i).insts) (ha:∀a∈y.args,0≤a∧a<f.vars.length) (h2:y.op=18→∃a b,y.args=[a,b]):kg f i base (fT f p y) (done++[y]):=by
 have hi:=F7 h.vok h.now ha
 have h1:kg f i base (p.1,p.2++[f9 p.1 y]) (done++[y]):=by
  refine ⟨h.vok,h.now,yM h.frm (.old hy hi),fun z hz=>?_,fun d h2 h3=>?_⟩
  ·rcases List.mem_append.1 hz with hz|hz
   ·obtain ⟨x,hx,e⟩:=h.img z hz
    exact ⟨x,List.mem_append_left _ hx,e⟩
   ·rw[List.mem_singleton.1 hz]
    exact ⟨_,List.mem_append_right _ (.head _),hi⟩
  ·obtain ⟨x,hx,e⟩:=h.mkd d h2 h3
   exact ⟨x,List.mem_append_left _ hx,e⟩
 unfold fT
 split
 ·rename_i ho
  obtain ⟨a,b,hab⟩:=h2 ho
  have e0:dq y=a:=by unfold dq;rw[hab];rfl
  have e1:eU y=b:=by unfold eU;rw[hab];rfl
  rw[e0,e1]
  have hb:=ha b (by rw[hab];simp)
  obtain ⟨⟨q1,q2⟩,q3⟩:=h.now.rt b hb.1 hb.2
  have hvl:=h.vok.len
  have hc:f9 p.1 y=⟨18,y.dst,[vi p.1.now a,vi p.1.now b],y.num⟩:=by unfold f9;rw[ho,hab];rfl
  refine (h1.put hb.1 hb.2 ?_).1
  show jW f i (p.1.rts++[b]) (p.2++[f9 p.1 y]) ⟨26,p.1.vars.length,[vi p.1.now b,vi p.1.now a],0⟩
  rw[hc]
  refine .len ⟨by omega,by rw[w5];show _<((f.vars.length+(p.1.rts.length+1):Nat):Int);omega⟩ ⟨q1,q2⟩ ?_
  rw[show dF f.vars.length (p.1.rts++[b]) (p.1.vars.length:Nat)=b by rw[hvl];exact oh,dg (by omega),q3]
 ·exact h1
theorem kg.rels {f:ab} {i:Int} {base:Nat}:∀{l:List sH} {p:f8} {done:List aB},kg f i base p done→(∀r∈l,r∈jJ f i∧(0≤r.a∧r.a<f.vars.length)∧0≤r.b∧r.b<f.vars.length)→kg f i base (l.foldl (gx f) p) done
 |[],_,_,h,_=>h
 |r::l,_,_,h,k=>by
  have:=kg.rels (l:=l) (h.rel (k r (.head _)).1 (k r (.head _)).2) fun q hq=>k q (.tail _ hq)
  exact this
theorem kg.inss {f:ab} {i:Int} {base:Nat}:∀{l:List aB} {p:f8} {done:List aB},kg f i base p done→(∀y∈l,y∈(aQ f i).insts∧(∀a∈y.args,0≤a∧a<f.vars.length)∧(y.op=18→∃a b,y.args=[a,b]))→kg f i base (l.foldl (fT f) p) (done++l)
 |[],_,_,h,_=>by rw[wc];exact h
 |y::l,_,done,h,k=>by
  have:=kg.inss (l:=l) (h.ins (k y (.head _)).1 (k y (.head _)).2.1 (k y (.head _)).2.2) fun q hq=>k q (.tail _ hq)
  rwa [qz] at this
structure sP (f:ab) (rts:List Int) (i:Int) (c:aK):Prop where
 name:c.name=(aQ f i).name
 frm:∀k x,c.insts[k]?=some x→jW f i rts (c.insts.take k) x
 img:∀y∈(aQ f i).insts,∃x∈c.insts,Bn f.vars.length rts y x
 kind:c.term.kind=(aQ f i).term.kind
 to0:c.term.to0=(aQ f i).term.to0
 to1:c.term.to1=(aQ f i).term.to1
 var:(aQ f i).term.kind≠0→(0≤c.term.var∧c.term.var<(f.vars.length+rts.length:Nat))∧dF f.vars.length rts c.term.var=(aQ f i).term.var
 var0:(aQ f i).term.kind=0→c.term.var=(aQ f i).term.var
theorem sP.up {f:ab} {rts:List Int} {i:Int} {c:aK} (h:sP f rts i c) (qs:List Int):sP f (rts++qs) i c:=
 ⟨h.name,fun k x hx=>(h.frm k x hx).up qs,fun y hy=>let ⟨x,hx,e⟩:=h.img y hy;⟨x,hx,e.up qs⟩,h.kind,h.to0,h.to1,fun hk=>by
  obtain ⟨⟨v1,v2⟩,v3⟩:=h.var hk
  exact ⟨⟨v1,by rw[w5];omega⟩,by rw[dg (by omega)];exact v3⟩,h.var0⟩
structure L6 (f:ab):Prop where
 args:∀b∈f.blocks,∀y∈b.insts,∀a∈y.args,0≤a∧a<f.vars.length
 two:∀b∈f.blocks,∀y∈b.insts,y.op=18→∃a b,y.args=[a,b]
 term:∀b∈f.blocks,b.term.kind≠0→0≤b.term.var∧b.term.var<f.vars.length
 rel:∀i,∀r∈jJ f i,(0≤r.a∧r.a<f.vars.length)∧0≤r.b∧r.b<f.vars.length
theorem jV.upN {n:Nat} {vars vs:List lA} {rts qs now:List Int} (h:jV n vars rts now) (hl:vars.length=n+rts.length):jV n (vars++vs) (rts++qs) now:=
 ⟨h.len,fun v h0 h1=>by
  obtain ⟨⟨r1,r2⟩,r3⟩:=h.rt v h0 h1
  exact ⟨⟨r1,by rw[w5];omega⟩,by rw[dg (by omega)];exact r3⟩⟩
structure k5 (f:ab) (W:tT) (done:List Int):Prop where
 vok:pz f W.vars W.rts
 el:W.ends.length=f.blocks.length
 bl:W.blks.length=f.blocks.length
 ends:∀b∈done,jV f.vars.length W.vars W.rts (fU W.ends b)
 blks:∀b∈done,∃c,W.blks[b.toNat]?=some c∧sP f W.rts b c
 phis:∀(k:Nat) c,W.blks[k]?=some c→c.phis=[]
 mkd:∀d:Int,f.vars.length≤d→d<W.vars.length→∃b∈done,∃c,W.blks[b.toNat]?=some c∧∃x∈c.insts,x.dst=d
theorem sQ (f:ab) (p:f8) (v:Int) (x:aB):(∃vs,(eR f p v x).1.vars=p.1.vars++vs)∧∃qs,(eR f p v x).1.rts=p.1.rts++qs:=by
 unfold eR
 split
 ·exact ⟨⟨[],(wc _).symm⟩,[],(wc _).symm⟩
 ·exact ⟨⟨_,rfl⟩,_,rfl⟩
theorem F8 (f:ab) (p:f8) (r:sH):(∃vs,(gx f p r).1.vars=p.1.vars++vs)∧∃qs,(gx f p r).1.rts=p.1.rts++qs:=by
 unfold gx
 obtain ⟨⟨a,ha⟩,b,hb⟩:=sQ f p r.a ⟨25,0,[vi p.1.now r.a,vi p.1.now r.b],r.n⟩
 obtain ⟨⟨c,hc⟩,d,hd⟩:=sQ f (eR f p r.a ⟨25,0,[vi p.1.now r.a,vi p.1.now r.b],r.n⟩) r.b ⟨25,0,[vi p.1.now r.b,vi p.1.now r.a],kz r.n⟩
 exact ⟨⟨a++c,by rw[hc,ha,qz]⟩,b++d,by rw[hd,hb,qz]⟩
theorem F9 (f:ab) (p:f8) (x:aB):(∃vs,(fT f p x).1.vars=p.1.vars++vs)∧∃qs,(fT f p x).1.rts=p.1.rts++qs:=by
 unfold fT
 split
 ·exact sQ f (p.1,p.2++[f9 p.1 x]) _ _
 ·exact ⟨⟨[],(wc _).symm⟩,[],(wc _).symm⟩
theorem sR {α:Type} {g:f8→α→f8} (h:∀p x,(∃vs,(g p x).1.vars=p.1.vars++vs)∧∃qs,(g p x).1.rts=p.1.rts++qs):∀(l:List α) (p:f8),(∃vs,(l.foldl g p).1.vars=p.1.vars++vs)∧∃qs,(l.foldl g p).1.rts=p.1.rts++qs
 |[],p=>⟨⟨[],(wc _).symm⟩,[],(wc _).symm⟩
 |x::l,p=>by
  obtain ⟨⟨a,ha⟩,b,hb⟩:=h p x
  obtain ⟨⟨c,hc⟩,d,hd⟩:=sR h l (g p x)
  exact ⟨⟨a++c,by rw[List.foldl_cons,hc,ha,qz]⟩,b++d,by rw[List.foldl_cons,hd,hb,qz]⟩
theorem uO (f:ab) (S:pX) (b:Int):(∃vs,(dE f S b).1.vars=S.vars++vs)∧∃qs,(dE f S b).1.rts=S.rts++qs:=by
 obtain ⟨⟨a,ha⟩,c,hc⟩:=sR (F8 f) (jJ f b) (S,[])
 obtain ⟨⟨d,hd⟩,e,he⟩:=sR (F9 f) (aQ f b).insts ((jJ f b).foldl (gx f) (S,[]))
 exact ⟨⟨a++d,by unfold dE;rw[hd,ha,qz]⟩,c++e,by unfold dE;rw[he,hc,qz]⟩
theorem Ga {f:ab} (hF:L6 f) {S:pX} (hv:pz f S.vars S.rts) (hn:jV f.vars.length S.vars S.rts S.now) {b:Int} (h0:0≤b) (h1:b<f.blocks.length):kg f b S.vars.length (dE f S b) (aQ f b).insts:=by
 have hm:=dU h0 h1
 have h:kg f b S.vars.length (S,[]) []:=⟨hv,hn,fun k x hx=>(by cases hx),fun y hy=>(by cases hy),fun d h2 h3=>by have h3:d<S.vars.length:=h3;omega⟩
 have:=kg.inss (h.rels fun r hr=>⟨hr,hF.rel b r hr⟩) (l:=(aQ f b).insts) fun y hy=>⟨hy,hF.args _ hm y hy,hF.two _ hm y hy⟩
 rwa [List.nil_append] at this
theorem yN {l:List (List Int)} {b u:Int} {r:List Int} (h0:0≤b) (h1:b<l.length) (g0:0≤u):fU (l.set b.toNat r) u=if u=b then r else fU l u:=by
 unfold fU
 split
 ·rename_i e;rw[e,List.getElem?_set_self (by omega)];rfl
 ·rename_i e;rw[List.getElem?_set_ne (by omega)]
theorem k5.step {f:ab} (hF:L6 f) {W:tT} {done:List Int} (h:k5 f W done) (hd:∀u∈done,0≤u) {b:Int} (h0:0≤b) (h1:b<f.blocks.length) (hn:0≤nearD f b→nearD f b∈done) (hnd:b ∉ done):k5 f (ke f W b) (done++[b]):=by
 have hnow:jV f.vars.length W.vars W.rts (dz f W b).now:=by
  show jV _ _ _ (if 0≤nearD f b then fU W.ends (nearD f b) else aY f.vars.length)
  split
  ·rename_i k;exact h.ends _ (hn k)
  ·refine ⟨bR _,fun v g0 g1=>?_⟩
   have e:vi (aY f.vars.length) v=v:=by
    unfold vi aY
    rw[w7,List.getElem?_range (by omega)]
    show ((v.toNat:Nat):Int)=v
    omega
   rw[e]
   have:=h.vok.len
   exact ⟨⟨g0,by omega⟩,sO g1⟩
 have hb:=Ga hF (S:=dz f W b) h.vok hnow h0 h1
 obtain ⟨⟨vs,hvs⟩,qs,hqs⟩:=uO f (dz f W b) b
 have hvs:(dE f (dz f W b) b).1.vars=W.vars++vs:=hvs
 have hqs:(dE f (dz f W b) b).1.rts=W.rts++qs:=hqs
 have hm:=dU h0 h1
 generalize hp:dE f (dz f W b) b=p at hb hvs hqs
 have hW:ke f W b=⟨p.1.vars,p.1.rts,p.1.k,W.ends.set b.toNat p.1.now,W.blks.set b.toNat ⟨(aQ f b).name,[],p.2,fy p.1 (aQ f b).term⟩⟩:=by unfold ke;rw[hp]
 rw[hW]
 refine ⟨hb.vok,by show (W.ends.set _ _).length=_;rw[List.length_set];exact h.el,by show (W.blks.set _ _).length=_;rw[List.length_set];exact h.bl,fun u hu=>?_,fun u hu=>?_,fun k c hc=>?_,fun d h2 h3=>?_⟩
 ·have hu0:0≤u:=by rcases List.mem_append.1 hu with k|k;exact hd u k;rw[List.mem_singleton.1 k];exact h0
  show jV _ p.1.vars p.1.rts (fU (W.ends.set b.toNat p.1.now) u)
  rw[yN h0 (by rw[h.el];exact h1) hu0]
  split
  ·exact hb.now
  ·rename_i ne
   have hu2:u∈done:=by rcases List.mem_append.1 hu with k|k;exact k;exact absurd (List.mem_singleton.1 k) ne
   rw[hvs,hqs]
   exact (h.ends u hu2).upN h.vok.len
 ·have hu0:0≤u:=by rcases List.mem_append.1 hu with k|k;exact hd u k;rw[List.mem_singleton.1 k];exact h0
  show ∃c,(W.blks.set b.toNat _)[u.toNat]?=some c∧sP f p.1.rts u c
  by_cases e:u=b
  ·subst e
   refine ⟨_,List.getElem?_set_self (by rw[h.bl];omega),U,hb.frm,hb.img,?_,?_,?_,fun hk=>?_,fun hk=>by show (fy _ _).var=_;unfold fy;rw[if_pos hk]⟩
   ·show (fy _ _).kind=_;unfold fy;split<;>rfl
   ·show (fy _ _).to0=_;unfold fy;split<;>rfl
   ·show (fy _ _).to1=_;unfold fy;split<;>rfl
   ·have hv:(fy p.1 (aQ f u).term).var=vi p.1.now (aQ f u).term.var:=by unfold fy;rw[if_neg hk]
    show (0≤(fy p.1 (aQ f u).term).var∧(fy p.1 (aQ f u).term).var<_)∧dF _ _ (fy p.1 (aQ f u).term).var=_
    rw[hv]
    obtain ⟨t1,t2⟩:=hF.term _ hm hk
    have:=hb.now.rt _ t1 t2
    rw[←hb.vok.len];exact this
  ·have hu2:u∈done:=by rcases List.mem_append.1 hu with k|k;exact k;exact absurd (List.mem_singleton.1 k) e
   obtain ⟨c,hc,hk⟩:=h.blks u hu2
   exact ⟨c,by rw[List.getElem?_set_ne (by omega)];exact hc,by rw[hqs];exact hk.up qs⟩
 ·have hc:(W.blks.set b.toNat _)[k]?=some c:=hc
  rw[List.getElem?_set] at hc
  split at hc
  ·split at hc
   ·cases hc;rfl
   ·cases hc
  ·exact h.phis k c hc
 ·have h3:d<p.1.vars.length:=h3
  show ∃u∈done++[b],∃c,(W.blks.set b.toNat _)[u.toNat]?=some c∧_
  by_cases e:d<W.vars.length
  ·obtain ⟨u,hu,c,hc,hx⟩:=h.mkd d h2 e
   have hne:u≠b:=fun e=>hnd (e▸hu)
   have:=hd u hu
   exact ⟨u,List.mem_append_left _ hu,c,by rw[List.getElem?_set_ne (by omega)];exact hc,hx⟩
  ·obtain ⟨x,hx,e2⟩:=hb.mkd d (by show (W.vars.length:Int)≤d;omega) h3
   exact ⟨b,List.mem_append_right _ (.head _),_,List.getElem?_set_self (by rw[h.bl];omega),x,hx,e2⟩
theorem DW {n k:Nat} {c:aK} (hc:(List.replicate n yL)[k]?=some c):c.phis=[]:=by
 rw[List.getElem?_replicate] at hc
 split at hc
 ·cases hc;rfl
 ·cases hc
theorem k5.first (f:ab):k5 f (vN f) []:=
 ⟨⟨(Nat.add_zero _).symm,fun r hr=>(by cases hr),[],(wc _).symm⟩,List.length_replicate,List.length_replicate,fun b hb=>(by cases hb),fun b hb=>(by cases hb),fun k c hc=>DW hc,fun d h2 h3=>by have h3:d<f.vars.length:=h3;omega⟩
def gm (f:ab) (done:List Int):List Int→Prop
 |[]=>True
 |b::l=>(0≤b∧b<f.blocks.length)∧(0≤nearD f b→nearD f b∈done)∧gm f (done++[b]) l
theorem k5.all {f:ab} (hF:L6 f):∀(l:List Int) {W:tT} {done:List Int},k5 f W done→(∀u∈done,0≤u)→gm f done l→(done++l).Nodup→k5 f (l.foldl (ke f) W) (done++l)
 |[],_,_,h,_,_,_=>by rw[wc];exact h
 |b::l,W,done,h,hd,hn,hnd=>by
  have hb:b ∉ done:=fun k=>(List.nodup_append.1 hnd).2.2 b k b (.head _) rfl
  have:=k5.all hF l (h.step hF hd hn.1.1 hn.1.2 hn.2.1 hb) (fun u hu=>by rcases List.mem_append.1 hu with k|k;exact hd u k;rw[List.mem_singleton.1 k];exact hn.1.1) hn.2.2 (by rw[qz];exact hnd)
  rwa [qz] at this
end
section
open Go.Proofs
section
variable {f:ab}
theorem gm.app:∀{l m done:List Int},gm f done l→gm f (done++l) m→gm f done (l++m)
 |[],_,_,_,h=>by rwa [wc] at h
 |b::l,m,done,h,k=>⟨h.1,h.2.1,gm.app h.2.2 (by rw[qz];exact k)⟩
def yO (f:ab) (b:Int):List Int:=(aY f.blocks.length).filter fun k=>!decide (k=b)&&(domF f b k&&decide (nearD f k=b))
theorem mF (n:Nat) (b:Int):gN f (n+1) b=b::(yO f b).flatMap (gN f n):=rfl
theorem gn {b k:Int}:k∈yO f b↔(0≤k∧k<f.blocks.length)∧k≠b∧domF f b k=true∧nearD f k=b:=by
 unfold yO
 rw[List.mem_filter,dB]
 simp only[wh,Bool.not_eq_true',decide_eq_false_iff_not,wm]
theorem yP:∀(n:Nat) (b:Int) (done:List Int),(0≤b∧b<f.blocks.length)→(0≤nearD f b→nearD f b∈done)→gm f done (gN f n b)
 |0,b,done,hb,hn=>⟨hb,hn,trivial⟩
 |n+1,b,done,hb,hn=>by
  rw[mF]
  refine ⟨hb,hn,?_⟩
  have key:∀(ks:List Int) (don2:List Int),(∀k∈ks,k∈yO f b)→b∈don2→gm f don2 (ks.flatMap (gN f n)):=fun ks=>by
   induction ks with
   |nil=>exact fun _ _ _=>trivial
   |cons k ks ih=>
    intro don2 hk hm
    rw[List.flatMap_cons]
    have h1:=gn.1 (hk k (.head _))
    exact gm.app (yP n k don2 h1.1 fun _=>by rw[h1.2.2.2];exact hm) (ih _ (fun q hq=>hk q (.tail _ hq)) (List.mem_append_left _ hm))
  exact key _ _ (fun _ h=>h) (List.mem_append_right _ (.head _))
variable (hR:bm f)
include hR
theorem bm.levL {b:Int} (hb:0≤b∧b<f.blocks.length):0≤gi (b9 (ah f) f.blocks.length) b:=hR.hE.grph.lev_nn (hR.memO hb)
theorem gp:∀(n:Nat) (b:Int),(0≤b∧b<f.blocks.length)→∀x∈gN f n b,gC (ah f) b x∧0≤x∧x<f.blocks.length
 |0,b,hb,x,hx=>by
  rw[List.mem_singleton.1 hx]
  exact ⟨.refl ((bQ hR.hE.grph.toEOk b).1 (hR.memO hb)),hb⟩
 |n+1,b,hb,x,hx=>by
  rw[mF] at hx
  rcases List.mem_cons.1 hx with rfl|hx
  ·exact ⟨.refl ((bQ hR.hE.grph.toEOk x).1 (hR.memO hb)),hb⟩
  ·obtain ⟨k,hk,hx⟩:=List.mem_flatMap.1 hx
   have h1:=gn.1 hk
   obtain ⟨g1,g2⟩:=gp n k h1.1 x hx
   exact ⟨gC.trans ((hR.domF _ _).1 h1.2.2.1) g1,g2⟩
theorem bm.line:∀(m:Nat) {a b x:Int},(0≤x∧x<f.blocks.length)→gi (b9 (ah f) f.blocks.length) x≤m→gC (ah f) a x→gC (ah f) b x→gC (ah f) a b∨gC (ah f) b a:=fun m=>by
 induction m with
 |zero=>
  intro a b x hx hl ha hb
  have hm:=hR.memO hx
  by_cases h0:x=0
  ·have:=cG hR.hE.grph ha (h0▸.root ha.rch)
   subst this
   exact .inr hb
  ·have:=hR.hE.grph.lev_near hm h0
   have:=hR.hE.grph.lev_nn (hR.hE.grph.near_mem hm h0).1
   omega
 |succ m ih=>
  intro a b x hx hl ha hb
  by_cases ea:a=x
  ·subst ea;exact .inr hb
  by_cases eb:b=x
  ·subst eb;exact .inl ha
  have hm:=hR.memO hx
  have h0:x≠0:=fun e=>ea (cG hR.hE.grph ha (e▸.root ha.rch))
  have hl2:=hR.hE.grph.lev_near hm h0
  have hy:=(hR.hE.grph.near_mem hm h0).1
  exact ih (cQ hR.hE.grph.toEOk hy) (by omega) ((hR.near_dom hx h0).1 ⟨ha,ea⟩) ((hR.near_dom hx h0).1 ⟨hb,eb⟩)
theorem jE:∀(n:Nat) (b:Int),(0≤b∧b<f.blocks.length)→(gN f n b).Nodup
 |0,b,_=>by unfold gN;simp
 |n+1,b,hb=>by
  have hG:=hR.hE.grph
  rw[mF,List.nodup_cons]
  refine ⟨fun h=>?_,?_⟩
  ·obtain ⟨k,hk,hx⟩:=List.mem_flatMap.1 h
   have h1:=gn.1 hk
   have:=(gp hR n k h1.1 b hx).1
   exact h1.2.1 (cG hG this ((hR.domF _ _).1 h1.2.2.1))
  ·have hkn:(yO f b).Nodup:=by
    unfold yO
    refine List.Pairwise.filter _ ?_
    unfold aY
    rw[List.pairwise_map]
    exact List.nodup_range.imp fun h e=>h (Int.ofNat.inj e)
   unfold List.Nodup
   rw[List.pairwise_flatMap]
   refine ⟨fun k hk=>jE n k (gn.1 hk).1,?_⟩
   refine List.Pairwise.imp_of_mem ?_ hkn
   rintro c d hc hd hne x hx y hy rfl
   have hc:=gn.1 hc
   have hd:=gn.1 hd
   obtain ⟨x1,x2⟩:=gp hR n c hc.1 x hx
   obtain ⟨y1,_⟩:=gp hR n d hd.1 x hy
   have two:∀{c d:Int},(0≤d∧d<f.blocks.length)→d≠b→domF f b d=true→nearD f d=b→(c≠b∧domF f b c=true)→gC (ah f) c d→c=d:=fun {c d} hd hdb h1 h2 hc h=>by
    refine Classical.byContradiction fun hne=>?_
    have hd0:d≠0:=fun e=>by
     have:=cG hG ((hR.domF _ _).1 h1) (e▸.root ((hR.domF _ _).1 h1).rch)
     exact hdb this.symm
    have h3:=(hR.near_dom hd hd0).1 ⟨h,hne⟩
    rw[hR.nearD hd,if_neg hd0] at h2
    rw[h2] at h3
    exact hc.1 (cG hG h3 ((hR.domF _ _).1 hc.2))
   rcases hR.line f.blocks.length x2 (by
    obtain ⟨j,rfl⟩:∃j:Nat,x=(j:Int):=⟨x.toNat,by omega⟩
    have:=hR.lev (i:=j) (by omega)
    omega) x1 y1 with h|h
   ·exact hne (two hd.1 hd.2.1 hd.2.2.1 hd.2.2.2 ⟨hc.2.1,hc.2.2.1⟩ h)
   ·exact hne (two hc.1 hc.2.1 hc.2.2.1 hc.2.2.2 ⟨hd.2.1,hd.2.2.1⟩ h).symm
theorem sS (n:Nat) {b:Int} (hb:0≤b∧b<f.blocks.length):(gN f n b).length≤f.blocks.length:=by
 have:=List.Nodup.length_le_of_subset (jE hR n b hb) (l₂:=aY f.blocks.length) fun x hx=>dB.2 (gp hR n b hb x hx).2
 rwa [bR] at this
theorem bm.child:∀(m:Nat) {b x:Int},(0≤x∧x<f.blocks.length)→gi (b9 (ah f) f.blocks.length) x≤m→gC (ah f) b x→b≠x→∃c,c∈yO f b∧gC (ah f) c x:=fun m=>by
 induction m with
 |zero=>
  intro b x hx hl h hne
  have hm:=hR.memO hx
  by_cases h0:x=0
  ·exact absurd (cG hR.hE.grph h (h0▸.root h.rch)) hne
  ·have:=hR.hE.grph.lev_near hm h0
   have:=hR.hE.grph.lev_nn (hR.hE.grph.near_mem hm h0).1
   omega
 |succ m ih=>
  intro b x hx hl h hne
  have hm:=hR.memO hx
  have h0:x≠0:=fun e=>hne (cG hR.hE.grph h (e▸.root h.rch))
  have hl2:=hR.hE.grph.lev_near hm h0
  have hy:=(hR.hE.grph.near_mem hm h0).1
  have hyr:=cQ hR.hE.grph.toEOk hy
  have hd:=(hR.near_dom hx h0).1 ⟨h,hne⟩
  by_cases e:b=gi (cR (ah f) f.blocks.length) x
  ·refine ⟨x,gn.2 ⟨hx,fun e=>hne e.symm,(hR.domF _ _).2 h,?_⟩,.refl h.1⟩
   rw[hR.nearD hx,if_neg h0,e]
  ·obtain ⟨c,hc,hcy⟩:=ih hyr (by omega) hd e
   have hyx:gC (ah f) (gi (cR (ah f) f.blocks.length) x) x:=((hR.near_dom hx h0).2 (.refl ((bQ hR.hE.grph.toEOk _).1 hy))).1
   exact ⟨c,hc,hcy.trans hyx⟩
theorem yQ:∀(n:Nat) {b x:Int},(0≤b∧b<f.blocks.length)→(0≤x∧x<f.blocks.length)→(f.blocks.length:Int)≤n+gi (b9 (ah f) f.blocks.length) b→gC (ah f) b x→x∈gN f n b
 |0,b,x,hb,hx,hl,h=>by
  obtain ⟨j,rfl⟩:∃j:Nat,b=(j:Int):=⟨b.toNat,by omega⟩
  have:=hR.lev (i:=j) (by omega)
  omega
 |n+1,b,x,hb,hx,hl,h=>by
  rw[mF]
  by_cases e:b=x
  ·rw[e];exact .head _
  ·obtain ⟨c,hc,hcx⟩:=hR.child f.blocks.length hx (by
    obtain ⟨j,rfl⟩:∃j:Nat,x=(j:Int):=⟨x.toNat,by omega⟩
    have:=hR.lev (i:=j) (by omega)
    omega) h e
   have h1:=gn.1 hc
   have hc0:c≠0:=fun e0=>h1.2.1 (by
    have:=(hR.domF _ _).1 h1.2.2.1
    exact (cG hR.hE.grph (e0▸.root this.rch) this))
   have hlev:=hR.hE.grph.lev_near (hR.memO h1.1) hc0
   have hn:=h1.2.2.2
   rw[hR.nearD h1.1,if_neg hc0] at hn
   rw[hn] at hlev
   exact .tail _ (List.mem_flatMap.2 ⟨c,hc,yQ n h1.1 hx (by omega) hcx⟩)
def pa (f:ab) (r:sH):Prop:=(0≤r.a∧r.a<f.vars.length)∧0≤r.b∧r.b<f.vars.length
omit hR in
theorem sT {q:ia} (h:∀r∈q.out,pa f r) {a b n:Int} (hr:pa f ⟨a,b,n⟩):∀r∈(ft q a b n).out,pa f r:=by
 unfold ft
 split
 ·exact h
 ·intro r hm
  rcases List.mem_append.1 hm with hm|hm
  ·exact h r hm
  ·rw[List.mem_singleton.1 hm];exact hr
theorem yR:∀(n:Nat) (q:ia) (c:Int) (is:Bool),(∀r∈q.out,pa f r)→∀r∈(gv f n q c is).out,pa f r
 |0,q,_,_,h=>h
 |n+1,q,c,is,h=>by
  unfold gv
  split
  ·exact h
  split
  ·exact h
  rename_i x hx
  obtain ⟨hF,_,_⟩:=hR.madeF hx
  have a0:∀{k:Int},x.op=k→0<([0,1,2,2,2,2,2,2,2,2,1,2,1,2,3,1,0,1,2,1,1,2,2,2,1,2,2][k.toNat]?).getD 0→(0≤dq x∧dq x<f.vars.length):=fun e h=>(hF.a0 (by rw[hF.cnt e];exact h)).symm
  have a1:∀{k:Int},x.op=k→1<([0,1,2,2,2,2,2,2,2,2,1,2,1,2,3,1,0,1,2,1,1,2,2,2,1,2,2][k.toNat]?).getD 0→(0≤eU x∧eU x<f.vars.length):=fun e h=>(hF.a1 (by rw[hF.cnt e];exact h)).symm
  split
  ·exact yR n ⟨_,_⟩ _ _ h
  split
  ·exact yR n ⟨_,_⟩ _ _ h
  split
  ·split
   ·exact yR n _ _ _ (yR n ⟨_,_⟩ _ _ h)
   ·exact h
  split
  ·rename_i e
   split
   ·exact sT (q:=⟨q.seen++[(c,is)],q.out⟩) h ⟨a0 e (by decide),a1 e (by decide)⟩
   ·exact sT (q:=⟨q.seen++[(c,is)],q.out⟩) h ⟨a1 e (by decide),a0 e (by decide)⟩
  split
  ·rename_i e
   split
   ·exact sT (q:=⟨q.seen++[(c,is)],q.out⟩) h ⟨a0 e (by decide),a1 e (by decide)⟩
   ·exact sT (q:=⟨q.seen++[(c,is)],q.out⟩) h ⟨a1 e (by decide),a0 e (by decide)⟩
  split
  ·rename_i e
   split
   ·exact sT (q:=⟨q.seen++[(c,is)],q.out⟩) h ⟨a0 e (by decide),a1 e (by decide)⟩
   ·exact h
  ·exact h
theorem LI (i:Int):∀r∈jJ f i,pa f r:=by
 unfold jJ
 split
 ·split
  ·exact yR hR _ _ _ _ fun r hr=>(by cases hr)
  ·exact fun r hr=>(by cases hr)
 ·exact fun r hr=>(by cases hr)
theorem bm.inf:L6 f where
 args b hb y hy a ha:=(bN ((hR.run.insts b hb y hy).1.args a ha)).symm
 two b hb y hy e:=by
  have hF:=(hR.run.insts b hb y hy).1
  have hl:y.args.length=2:=hF.cnt e
  match h:y.args,hl with
  |[a,c],_=>exact ⟨a,c,rfl⟩
 term b hb hk:=(bN (fI (hR.run.term b hb) hk)).symm
 rel i r hr:=LI hR i r hr
theorem bm.ordB:gm f [] (gN f f.blocks.length 0):=yP _ 0 [] ⟨Int.le_refl _,by have:=hR.hE.pos;omega⟩ fun h=>by
 rw[hR.nearD ⟨Int.le_refl _,by have:=hR.hE.pos;omega⟩,if_pos rfl] at h
 omega
theorem bm.ordAll {x:Int} (hx:0≤x∧x<f.blocks.length):x∈gN f f.blocks.length 0:=by
 have hp:(0:Int)<f.blocks.length:=by have:=hR.hE.pos;omega
 refine yQ hR _ ⟨Int.le_refl _,hp⟩ hx ?_ (.root ((bQ hR.hE.grph.toEOk x).1 (hR.memO hx)))
 have:=hR.levL ⟨Int.le_refl _,hp⟩
 omega
theorem qI:k5 f (gl f) (gN f f.blocks.length 0):=by
 have:=k5.all hR.inf _ (k5.first f) (fun _ h=>by cases h) hR.ordB (by rw[List.nil_append];exact jE hR _ 0 ⟨Int.le_refl _,by have:=hR.hE.pos;omega⟩)
 rwa [List.nil_append] at this
structure Gb (f g:ab) (rts:List Int):Prop where
 vars:∃l,g.vars=f.vars++l
 len:g.vars.length=f.vars.length+rts.length
 rt:∀r∈rts,0≤r∧r<f.vars.length
 par:g.params=f.params
 bl:g.blocks.length=f.blocks.length
 blk:∀i:Int,0≤i→i<f.blocks.length→sP f rts i (aQ g i)
 mkd:∀d:Int,f.vars.length≤d→d<g.vars.length→∃(i k:Nat) (x:aB),sE g i k x∧x.dst=d
theorem ol (k:Nat):(fu f).blocks[k]?=((f.blocks[k]?).bind fun b=>((gl f).blks[k]?).map fun c=>{ c with phis:=b.phis.map (mc (gl f).ends) }):=by
 show ((f.blocks.zip _).map _)[k]?=_
 rw[w7]
 cases h1:f.blocks[k]? with
 |none=>
  have:(f.blocks.zip (gl f).blks)[k]?=none:=by
   rw[List.getElem?_eq_none_iff,List.length_zip]
   have:=List.getElem?_eq_none_iff.1 h1
   omega
  rw[this];rfl
 |some b=>
  cases h2:(gl f).blks[k]? with
  |none=>
   have:(f.blocks.zip (gl f).blks)[k]?=none:=by
    rw[List.getElem?_eq_none_iff,List.length_zip]
    have:=List.getElem?_eq_none_iff.1 h2
    omega
   rw[this];rfl
  |some c=>
   have h3:(f.blocks.zip (gl f).blks)[k]?=some (b,c):=List.getElem?_zip_eq_some.2 ⟨h1,h2⟩
   rw[h3];rfl
theorem vO:Gb f (fu f) (gl f).rts:=by
 have hW:=qI hR
 obtain ⟨l,hl⟩:=hW.vok.pre
 have hlen:(fu f).blocks.length=f.blocks.length:=by
  show ((f.blocks.zip _).map _).length=_
  rw[w6,List.length_zip,hW.bl,Nat.min_self]
 refine ⟨⟨l,hl⟩,hW.vok.len,hW.vok.rt,U,hlen,fun i h0 h1=>?_,fun d h2 h3=>?_⟩
 ·obtain ⟨c,hc,hk⟩:=hW.blks i (hR.ordAll ⟨h0,h1⟩)
  have hb:f.blocks[i.toNat]?=some (aQ f i):=eO h0 h1
  have hg:(fu f).blocks[i.toNat]?=some { c with phis:=(aQ f i).phis.map (mc (gl f).ends) }:=by rw[ol hR,hb,hc];rfl
  have e:aQ (fu f) i={ c with phis:=(aQ f i).phis.map (mc (gl f).ends) }:=by unfold aQ;rw[hg];rfl
  rw[e]
  exact ⟨hk.name,hk.frm,hk.img,hk.kind,hk.to0,hk.to1,hk.var,hk.var0⟩
 ·obtain ⟨b,hb,c,hc,x,hx,e⟩:=hW.mkd d h2 h3
  have hbr:=(gp hR _ 0 ⟨Int.le_refl _,by have:=hR.hE.pos;omega⟩ b hb).2
  obtain ⟨k,hk⟩:=List.getElem?_of_mem hx
  refine ⟨b.toNat,k,x,⟨{ c with phis:=(aQ f b).phis.map (mc (gl f).ends) },?_,hk⟩,e⟩
  rw[ol hR,eO hbr.1 hbr.2,hc];rfl
end
end
section
open Go.Proofs
theorem pA {s t:GS} {u v:Int} (h:V t u=V s v):vi t.ints u=vi s.ints v∧gb t.bools u=gb s.bools v∧vi t.arrs u=vi s.arrs v:=by
 unfold V at h;simp only[Prod.mk.injEq] at h;exact h
theorem PX.args {f:ab} {s:GS} {x y:aB} (hF:dC f y) (ho:x.op=y.op) (hd:x.dst=y.dst) (hn:x.num=y.num) (hl:x.args.length=y.args.length) (ha:∀k:Nat,k<y.args.length→V s ((x.args[k]?).getD 0)=V s ((y.args[k]?).getD 0)) (p:PX s x):PX s y:=by
 have e0:0<y.args.length→V s (dq x)=V s (dq y):=fun h=>ha 0 h
 have e1:1<y.args.length→V s (eU x)=V s (eU y):=fun h=>ha 1 h
 have A:0<y.args.length→aG s x=aG s y∧pG s x=pG s y∧rG s x=rG s y:=fun h=>pA (e0 h)
 have B:1<y.args.length→bG s x=bG s y∧qG s x=qG s y:=fun h=>⟨(pA (e1 h)).1,(pA (e1 h)).2.1⟩
 have c:∀{k:Int},y.op=k→y.args.length=([0,1,2,2,2,2,2,2,2,2,1,2,1,2,3,1,0,1,2,1,1,2,2,2,1,2,2][k.toNat]?).getD 0:=fun e=>hF.cnt e
 constructor
 ·intro h1 h2
  have hp:=p.ck (by omega) (by omega)
  rw[ho] at hp
  have hl1:0<y.args.length:=by
   have h3:=hF.argc
   obtain ⟨k,hk⟩:∃k:Nat,y.op=(k:Int):=⟨y.op.toNat,by omega⟩
   rw[c hk]
   have:k=18∨k=19∨k=20∨k=21∨k=22∨k=23∨k=24:=by omega
   rcases this with rfl|rfl|rfl|rfl|rfl|rfl|rfl<;>decide
  obtain ⟨a1,a2,a3⟩:=A hl1
  have a1:vi s.ints ((x.args[0]?).getD 0)=vi s.ints ((y.args[0]?).getD 0):=a1
  have a3:vi s.arrs ((x.args[0]?).getD 0)=vi s.arrs ((y.args[0]?).getD 0):=a3
  have b1:wn x.args s.ints=wn y.args s.ints:=by
   unfold wn
   rw[hl]
   split
   ·rename_i h;exact (B h).1
   ·rfl
  unfold fp at hp ⊢
  rw[a1,a3,b1] at hp
  exact hp
 ·intro e;rw[←hd,←hn];exact p.i0 (by rw[ho];exact e)
 ·intro e;rw[←hd,←e0 (by rw[c e];decide)];exact p.i1 (by rw[ho];exact e)
 ·intro e;rw[←hd,←(A (by rw[c e];decide)).1,←(B (by rw[c e];decide)).1];exact p.i2 (by rw[ho];exact e)
 ·intro e;rw[←hd,←(A (by rw[c e];decide)).1,←(B (by rw[c e];decide)).1];exact p.i3 (by rw[ho];exact e)
 ·intro e;rw[←hd,←(A (by rw[c e];decide)).1,←(B (by rw[c e];decide)).1];exact p.i5 (by rw[ho];exact e)
 ·intro e;rw[←hd,←(A (by rw[c e];decide)).1,←(B (by rw[c e];decide)).1];exact p.i6 (by rw[ho];exact e)
 ·intro e;rw[←hd,←(A (by rw[c e];decide)).1,←(B (by rw[c e];decide)).1];exact p.i7 (by rw[ho];exact e)
 ·intro e;rw[←hd,←(A (by rw[c e];decide)).1,←(B (by rw[c e];decide)).1];exact p.i8 (by rw[ho];exact e)
 ·intro e;rw[←hd,←(A (by rw[c e];decide)).1,←(B (by rw[c e];decide)).1];exact p.i9 (by rw[ho];exact e)
 ·intro e;rw[←hd,←(A (by rw[c e];decide)).2.1];exact p.i10 (by rw[ho];exact e)
 ·intro e;rw[←hd,←(A (by rw[c e];decide)).2.1,←(B (by rw[c e];decide)).2];exact p.i11 (by rw[ho];exact e)
 ·intro e;rw[←hd,←(A (by rw[c e];decide)).2.2];exact p.i12 (by rw[ho];exact e)
 ·intro e;rw[←hd,←(A (by rw[c e];decide)).1];exact p.i15 (by rw[ho];exact e)
 ·intro e;rw[←hd];exact p.i16 (by rw[ho];exact e)
 ·intro e;rw[←hd,←(A (by rw[c e];decide)).1,←(B (by rw[c e];decide)).1];exact p.i4 (by rw[ho];exact e)
 ·intro e;rw[←hd,←e0 (by rw[c e];decide)];exact p.i25 (by rw[ho];exact e)
 ·intro e;rw[←hd,←e0 (by rw[c e];decide)];exact p.i26 (by rw[ho];exact e)
section
variable {f g:ab} {rts:List Int} (hf:bm f) (hg:bm g) (hP:Gb f g rts)
include hf hg hP
omit hf hg in
theorem Gb.at {i k:Nat} {x:aB} (h:sE g i k x):jW f i rts ((aQ g i).insts.take k) x∧(i:Int)<f.blocks.length:=by
 obtain ⟨b,hb,hx⟩:=h
 have hi:i<g.blocks.length:=(List.getElem?_eq_some_iff.1 hb).1
 have e:aQ g (i:Int)=b:=dD hb
 rw[hP.bl] at hi
 rw[e]
 refine ⟨?_,by omega⟩
 have:=(hP.blk i (by omega) (by omega)).frm k x (by rw[e];exact hx)
 rwa [e] at this
omit hf hg in
theorem Gb.ends (b:Int):ah g b=ah f b:=by
 by_cases hb:0≤b∧b<f.blocks.length
 ·have h:=hP.blk b hb.1 hb.2
  have e1:ah g b=cK (aQ g b).term:=by
   unfold ah;rw[if_pos hb.1,eO hb.1 (by rw[hP.bl];exact hb.2)];rfl
  have e2:ah f b=cK (aQ f b).term:=by
   unfold ah;rw[if_pos hb.1,eO hb.1 hb.2];rfl
  rw[e1,e2]
  unfold cK
  rw[h.kind,h.to0,h.to1]
 ·rw[eN hb,eN (by rw[hP.bl];exact hb)]
omit hf hg in
theorem Gb.endsE:ah g=ah f:=funext hP.ends
theorem Gb.back {u:Int} (h0:(f.vars.length:Int)≤u) (h1:u<g.vars.length):∃(i k:Nat) (x:aB),sE g i k x∧x.dst=u∧(x.op=25∨x.op=26)∧(0≤dq x∧dq x<u)∧dq x∈x.args∧dF f.vars.length rts u=dF f.vars.length rts (dq x):=by
 obtain ⟨i,k,x,hx,e⟩:=hP.mkd u h0 h1
 obtain ⟨hF,hi⟩:=hP.at hx
 refine ⟨i,k,x,hx,e,?_⟩
 generalize (aQ g i).insts.take k=L at hF
 cases hF with
 |old hy hI=>
  exfalso
  rename_i y
  have hF2:=(hf.run.insts _ (dU (by omega) hi) y hy).1
  have:y.dst<f.vars.length:=by
   by_cases hd:0≤y.dst
   ·rcases hF2.dst with h|h
    ·omega
    ·exact (bN h.2.2).1
   ·omega
  rw[←e,hI.dst] at h0
  omega
 |pi hd ha hb hrt hr h=>exact ⟨.inl rfl,by rw[←e];exact ha,.head _,by rw[←e];exact hrt⟩
 |len hd ha hrt=>exact ⟨.inr rfl,by rw[←e];exact ha,.head _,by rw[←e];exact hrt⟩
theorem kC {s:GS} (hI:kb g s):∀(m:Nat) (u:Int),u<m→0≤u→u<g.vars.length→Av g s.blk s.pc u→Av g s.blk s.pc (dF f.vars.length rts u)∧V s (dF f.vars.length rts u)=V s u
 |0,u,h,h0,_,_=>by omega
 |m+1,u,h,h0,h1,ha=>by
  by_cases hn:u<f.vars.length
  ·rw[sO hn];exact ⟨ha,rfl⟩
  ·obtain ⟨i,k,x,hx,e,ho,hlt,hm,hrt⟩:=hP.back hf hg (by omega) h1
   have hmk:=hg.made hx (by omega)
   rw[e] at hmk
   have ha2:bM g ((i:Int),(k:Int)) s.blk s.pc:=by rw[←hmk];exact ha
   have hpx:=hI.px i k x hx ha2
   have hV:V s u=V s (dq x):=by
    rw[←e]
    rcases ho with ho|ho
    ·exact hpx.i25 ho
    ·exact hpx.i26 ho
   have hav:Av g s.blk s.pc (dq x):=fq (p:=((i:Int),(k:Int))) hg.hE (hg.av hx _ hm) ha2 (by dsimp only;omega)
   obtain ⟨g1,g2⟩:=kC hI m (dq x) (by omega) hlt.1 (by omega) hav
   rw[hrt]
   exact ⟨g1,by rw[g2,hV]⟩
theorem Ix {s:GS} (hI:kb g s):Jd f s (fun v=>Av g s.blk s.pc v∧0≤v∧v<f.vars.length):=fun v y hv hy=>by
 obtain ⟨j,k,hat,hd,hm⟩:=qH hy
 obtain ⟨hF,hT⟩:=hf.inF hat
 obtain ⟨b,hb,hyk⟩:=hat
 have hj:j<f.blocks.length:=(List.getElem?_eq_some_iff.1 hb).1
 have eb:aQ f (j:Int)=b:=dD hb
 obtain ⟨x,hx,hI2⟩:=(hP.blk j (by omega) (by omega)).img y (by rw[eb];exact w9 hyk)
 obtain ⟨q,hq⟩:=List.getElem?_of_mem hx
 have hatx:sE g j q x:=⟨aQ g j,(show g.blocks[(j:Int).toNat]?=_ from eO (by omega) (by rw[hP.bl];omega)),hq⟩
 have hdx:x.dst=v:=by rw[hI2.dst];exact hd
 have hmx:=hg.made hatx (by omega)
 rw[hdx] at hmx
 have ha:bM g ((j:Int),(q:Int)) s.blk s.pc:=by rw[←hmx];exact hv.1
 have hpx:=hI.px j q x hatx ha
 have hlen:x.args.length=y.args.length:=by rw[←hI2.args,w6]
 have hroot:∀k:Nat,(hk:k<x.args.length)→(y.args[k]?).getD 0=dF f.vars.length rts x.args[k]∧(x.args[k]?).getD 0=x.args[k]∧Av g s.blk s.pc x.args[k]∧0≤x.args[k]∧x.args[k]<g.vars.length:=fun k hk=>by
  refine ⟨by rw[←hI2.args,w7,qx hk];rfl,by rw[qx hk];rfl,?_,?_⟩
  ·exact fq (p:=((j:Int),(q:Int))) hg.hE (hg.av hatx _ (w3 hk)) ha (by dsimp only;omega)
  ·have:=hI2.bnd _ (w3 hk)
   rw[←hP.len] at this
   exact this
 refine ⟨⟨PX.args hF hI2.op hI2.dst hI2.num hlen (fun k hk=>?_) hpx,hF,hT,hd⟩,fun a ha2=>?_⟩
 ·obtain ⟨r1,r2,r3,r4,r5⟩:=hroot k (by omega)
  rw[r1,r2]
  exact (kC hf hg hP hI g.vars.length _ r5 r4 r5 r3).2.symm
 ·obtain ⟨k,hk⟩:=List.getElem?_of_mem ha2
  have hk1:=(List.getElem?_eq_some_iff.1 hk).1
  obtain ⟨r1,r2,r3,r4,r5⟩:=hroot k (by omega)
  rw[hk] at r1
  have r1:a=dF f.vars.length rts x.args[k]:=r1
  refine ⟨by rw[r1];exact (kC hf hg hP hI g.vars.length _ r5 r4 r5 r3).1,?_⟩
  exact (bN (hF.args a ha2)).symm
theorem Iy {s:GS} (hI:kb g s):∀r∈jJ f s.blk,mU f s r:=by
 have hE:=hP.endsE
 have hb:=hI.g.b0
 have hb1:=hI.g.b1
 have hrch:nD (ah g) s.blk:=(bQ hg.hE.grph.toEOk _).1 (hg.memO ⟨hb,hb1⟩)
 have hd:gC (ah g) s.blk s.blk:=.refl hrch
 unfold jJ
 split
 ·rename_i p hp
  have hp2:bj (ah g) g.blocks.length s.blk=[p]:=by rw[hE,hP.bl];exact hp
  split
  ·rename_i hk
   obtain ⟨h1,h2,h3⟩:=hg.one hrch hp2
   obtain ⟨g1,_⟩:=hg.pred hp2
   have hpr:0≤p∧p<g.blocks.length:=Classical.byContradiction fun hn=>by rw[eN hn] at g1;cases g1
   have hpf:p<f.blocks.length:=by rw[←hP.bl];exact hpr.2
   have hB:=hP.blk p hpr.1 hpf
   have hkg:(aQ g p).term.kind=1:=by rw[hB.kind];exact hk.1
   obtain ⟨hav,h0⟩:=hg.brAv hrch hp2 hkg
   have hG:=hg.hE.grph
   have hbr:=hI.br s.blk p hd hp2 hkg (by rw[hB.to0,hB.to1];exact hk.2)
   have hat:Av g s.blk s.pc (aQ g p).term.var:=by
    rcases hav with h|⟨e,_⟩|⟨g0,g1,g2⟩
    ·exact .inl h
    ·refine .inr (.inr ⟨by omega,fun e2=>?_,?_⟩)
     ·rw[e] at e2;exact h3 e2
     ·rw[e];exact h2
    ·refine .inr (.inr ⟨g0,fun e2=>?_,g2.trans h2⟩)
     rw[e2] at g2
     exact h3 (cG hG h2 g2)
   obtain ⟨⟨v1,v2⟩,v3⟩:=hB.var (by omega)
   rw[←hP.len] at v2
   obtain ⟨r1,r2⟩:=kC hf hg hP hI g.vars.length _ v2 v1 v2 hat
   rw[v3] at r1 r2
   have htv:=(bN (fI (hf.run.term _ (dU hpr.1 hpf)) (by omega))).symm
   refine F4 (Ix hf hg hP hI) ⟨r1,htv⟩ ?_
   rw[(pA r2).2.1,hbr,hB.to0]
  ·exact fun r hr=>(by cases hr)
 ·exact fun r hr=>(by cases hr)
end
end
section
open Go.Proofs
theorem sU {G:Int→Prop} {q:ia} (h:∀r∈q.out,G r.a∧G r.b) {a b n:Int} (hr:G a∧G b):∀r∈(ft q a b n).out,G r.a∧G r.b:=by
 unfold ft
 split
 ·exact h
 ·intro r hm
  rcases List.mem_append.1 hm with hm|hm
  ·exact h r hm
  ·rw[List.mem_singleton.1 hm];exact hr
section
variable {f:ab} (hR:bm f)
include hR
theorem sV {G H:Int→Prop} (hG:∀v y,G v→eg f v=some y→∀a∈y.args,G a) (hH:∀v y,G v→eg f v=some y→y.op=7∨y.op=8∨y.op=9→∀a∈y.args,H a):∀(n:Nat) (q:ia) (c:Int) (is:Bool),G c→(∀r∈q.out,H r.a∧H r.b)→∀r∈(gv f n q c is).out,H r.a∧H r.b
 |0,q,_,_,_,h=>h
 |n+1,q,c,is,hc,h=>by
  unfold gv
  split
  ·exact h
  split
  ·exact h
  rename_i x hx
  obtain ⟨hF,_,_⟩:=hR.madeF hx
  have a0:∀{k:Int},x.op=k→0<([0,1,2,2,2,2,2,2,2,2,1,2,1,2,3,1,0,1,2,1,1,2,2,2,1,2,2][k.toNat]?).getD 0→G (dq x):=fun e h=>hG c x hc hx _ (yH (by rw[hF.cnt e];exact h))
  have a1:∀{k:Int},x.op=k→1<([0,1,2,2,2,2,2,2,2,2,1,2,1,2,3,1,0,1,2,1,1,2,2,2,1,2,2][k.toNat]?).getD 0→G (eU x):=fun e h=>hG c x hc hx _ (F3 (by rw[hF.cnt e];exact h))
  have b0:(x.op=7∨x.op=8∨x.op=9)→H (dq x)∧H (eU x):=fun e=>by
   have hl:x.args.length=2:=by rcases e with e|e|e<;>exact hF.cnt e
   exact ⟨hH c x hc hx e _ (yH (by omega)),hH c x hc hx e _ (F3 (by omega))⟩
  split
  ·rename_i e;exact sV hG hH n ⟨_,_⟩ _ _ (a0 e (by decide)) h
  split
  ·rename_i e;exact sV hG hH n ⟨_,_⟩ _ _ (a0 e (by decide)) h
  split
  ·rename_i e
   split
   ·exact sV hG hH n _ _ _ (a1 e (by decide)) (sV hG hH n ⟨_,_⟩ _ _ (a0 e (by decide)) h)
   ·exact h
  split
  ·rename_i e
   split
   ·exact sU (q:=⟨q.seen++[(c,is)],q.out⟩) h (b0 (by omega))
   ·exact sU (q:=⟨q.seen++[(c,is)],q.out⟩) h (b0 (by omega)).symm
  split
  ·rename_i e
   split
   ·exact sU (q:=⟨q.seen++[(c,is)],q.out⟩) h (b0 (by omega))
   ·exact sU (q:=⟨q.seen++[(c,is)],q.out⟩) h (b0 (by omega)).symm
  split
  ·rename_i e
   split
   ·exact sU (q:=⟨q.seen++[(c,is)],q.out⟩) h (b0 (by omega))
   ·exact h
  ·exact h
theorem Je {i:Int} (hi:0≤i∧i<f.blocks.length):∀r∈jJ f i,Av f i 0 r.a∧Av f i 0 r.b:=by
 have hG:=hR.hE.grph
 have hrch:nD (ah f) i:=(bQ hG.toEOk _).1 (hR.memO hi)
 unfold jJ
 split
 ·rename_i p hp
  split
  ·rename_i hk
   obtain ⟨hav,h0⟩:=hR.brAv hrch hp hk.1
   obtain ⟨_,h2,h3⟩:=hR.one hrch hp
   obtain ⟨g1,_⟩:=hR.pred hp
   have hpr:0≤p∧p<f.blocks.length:=Classical.byContradiction fun hn=>by rw[eN hn] at g1;cases g1
   have hcl:∀v y,Av f i 0 v→eg f v=some y→∀a∈y.args,Av f i 0 a:=fun v y hv hy a ha=>by
    obtain ⟨j,k,hat,hd,hm⟩:=qH hy
    have hv:bM f (aD f v) i 0:=hv
    rw[hm] at hv
    exact fq (p:=((j:Int),(k:Int))) hR.hE (hR.av hat a ha) hv (by dsimp only;omega)
   refine sV hR (G:=fun v=>Av f i 0 v) (H:=fun v=>Av f i 0 v) hcl (fun v y hv hy _=>hcl v y hv hy) _ _ _ _ ?_ fun r hr=>(by cases hr)
   ·rcases hav with h|⟨e,_⟩|⟨q0,q1,q2⟩
    ·exact .inl h
    ·refine .inr (.inr ⟨by omega,fun e2=>?_,?_⟩)
     ·rw[e] at e2;exact h3 e2
     ·rw[e];exact h2
    ·refine .inr (.inr ⟨q0,fun e2=>?_,q2.trans h2⟩)
     rw[e2] at q2
     exact h3 (cG hG h2 q2)
  ·exact fun r hr=>(by cases hr)
 ·exact fun r hr=>(by cases hr)
end
def nz (f:ab) (B:List aK) (i u:Int):Prop:=∃(j:Nat) (c:aK),(j:Int)≠i∧gC (ah f) j i∧B[j]?=some c∧∃x∈c.insts,x.dst=u
def fM (f:ab) (i:Int) (L:List aB) (u:Int):Prop:=(aD f u).1<0∨((aD f u).1=i∧((aD f u).2<0∨∃x∈L,x.dst=u))∨(0≤(aD f u).1∧(aD f u).1≠i∧gC (ah f) (aD f u).1 i)
def gq (f:ab) (B:List aK) (i:Int) (L:List aB) (u:Int):Prop:=((f.vars.length:Int)≤u∧((∃x∈L,x.dst=u)∨nz f B i u))∨(u<f.vars.length∧fM f i L u)
theorem fM.mono {f:ab} {i:Int} {L M:List aB} {u:Int} (h:fM f i L u) (hs:∀x∈L,x∈M):fM f i M u:=by
 rcases h with h|⟨h,h2⟩|h
 ·exact .inl h
 ·exact .inr (.inl ⟨h,h2.imp id fun ⟨x,hx,e⟩=>⟨x,hs x hx,e⟩⟩)
 ·exact .inr (.inr h)
structure ij (f:ab) (B:List aK) (i:Int) (base:Nat) (p:f8) (done:List aB):Prop where
 len:p.1.now.length=f.vars.length
 vl:f.vars.length≤base∧base≤p.1.vars.length
 nd:∀v:Int,0≤v→v<f.vars.length→(f.vars.length:Int)≤vi p.1.now v→(∃x∈p.2,x.dst=vi p.1.now v)∨nz f B i (vi p.1.now v)
 inj:∀(k k':Nat) (x x':aB),p.2[k]?=some x→p.2[k']?=some x'→x.dst=x'.dst→(f.vars.length:Int)≤x.dst→k=k'
 new:∀x∈p.2,(f.vars.length:Int)≤x.dst→(base:Int)≤x.dst∧x.dst<p.1.vars.length
 old:(p.2.filter fun x:aB=>decide (x.dst<(f.vars.length:Int))).map (·.dst)=done.map (·.dst)
 use:∀(k:Nat) (x:aB),p.2[k]?=some x→∀u∈x.args,gq f B i (p.2.take k) u
 cur:∀v:Int,0≤v→v<f.vars.length→vi p.1.now v<f.vars.length→vi p.1.now v=v
section
variable {f:ab} {B:List aK} {i:Int} {base:Nat} {p:f8} {done:List aB}
theorem ij.here (h:ij f B i base p done) {v:Int} (h0:0≤v) (h1:v<f.vars.length) (ho:fM f i p.2 v):gq f B i p.2 (vi p.1.now v):=by
 by_cases hn:(f.vars.length:Int)≤vi p.1.now v
 ·exact .inl ⟨hn,h.nd v h0 h1 hn⟩
 ·have e:=h.cur v h0 h1 (by omega)
  exact .inr ⟨by omega,by rw[e];exact ho⟩
theorem yS {L:List aB} {z:aB} (h:∀(k:Nat) (x:aB),L[k]?=some x→∀u∈x.args,gq f B i (L.take k) u) (hz:∀u∈z.args,gq f B i L u):∀(k:Nat) (x:aB),(L++[z])[k]?=some x→∀u∈x.args,gq f B i ((L++[z]).take k) u:=fun k x hx=>by
 by_cases hk:k<L.length
 ·rw[List.getElem?_append_left hk] at hx
  rw[List.take_append_of_le_length (by omega)]
  exact h k x hx
 ·rw[List.getElem?_append_right (by omega)] at hx
  have h0:k=L.length:=by
   have:=(List.getElem?_eq_some_iff.1 hx).1
   simp at this;omega
  subst h0
  rw[Nat.sub_self] at hx
  cases hx
  rw[List.take_left' rfl];exact hz
theorem yT {n:Int} {L:List aB} {z:aB} (h:∀(k k':Nat) (x x':aB),L[k]?=some x→L[k']?=some x'→x.dst=x'.dst→n≤x.dst→k=k') (hz:n≤z.dst→∀x∈L,x.dst≠z.dst):∀(k k':Nat) (x x':aB),(L++[z])[k]?=some x→(L++[z])[k']?=some x'→x.dst=x'.dst→n≤x.dst→k=k':=fun k k' x x' hx hx' e hn=>by
 have last:∀{q:Nat} {y:aB},¬q<L.length→(L++[z])[q]?=some y→q=L.length∧y=z:=fun {q y} hq hy=>by
  rw[List.getElem?_append_right (by omega)] at hy
  have h0:q=L.length:=by
   have:=(List.getElem?_eq_some_iff.1 hy).1
   simp at this;omega
  subst h0
  rw[Nat.sub_self] at hy
  cases hy
  exact ⟨rfl,rfl⟩
 by_cases hk:k<L.length
 ·by_cases hk':k'<L.length
  ·rw[List.getElem?_append_left hk] at hx
   rw[List.getElem?_append_left hk'] at hx'
   exact h k k' x x' hx hx' e hn
  ·obtain ⟨_,rfl⟩:=last hk' hx'
   rw[List.getElem?_append_left hk] at hx
   exact absurd e (hz (by omega) x (w9 hx))
 ·obtain ⟨e1,rfl⟩:=last hk hx
  by_cases hk':k'<L.length
  ·rw[List.getElem?_append_left hk'] at hx'
   exact absurd e.symm (hz hn x' (w9 hx'))
  ·obtain ⟨e2,_⟩:=last hk' hx'
   omega
theorem ij.put (h:ij f B i base p done) {v:Int} (h0:0≤v) (h1:v<f.vars.length) {x:aB} (hx:∀u∈x.args,gq f B i p.2 u):ij f B i base (eR f p v x) done:=by
 unfold eR
 split
 ·exact h
 ·have hvl:=h.vl
  refine ⟨?_,?_,fun u g0 g1 hn=>?_,yT h.inj fun hn y hy e=>?_,fun y hy hn=>?_,?_,yS h.use hx,fun u g0 g1 hn=>?_⟩
  ·show (p.1.now.set _ _).length=_
   rw[List.length_set];exact h.len
  ·show _∧base≤(p.1.vars++[_]).length
   rw[w5];exact ⟨hvl.1,by omega⟩
  ·have hn:(f.vars.length:Int)≤vi (p.1.now.set v.toNat p.1.vars.length) u:=hn
   show (∃x∈p.2++[_],x.dst=vi (p.1.now.set v.toNat p.1.vars.length) u)∨nz f B i (vi (p.1.now.set v.toNat p.1.vars.length) u)
   by_cases e:u=v
   ·subst e
    rw[iA g0 (by rw[h.len];exact g1)]
    exact .inl ⟨_,List.mem_append_right _ (.head _),rfl⟩
   ·rw[lu h0 g0 e] at hn ⊢
    exact (h.nd u g0 g1 hn).imp (fun ⟨x,hx,e⟩=>⟨x,List.mem_append_left _ hx,e⟩) id
  ·have:=(h.new y hy (by rw[e];exact hn)).2
   rw[e] at this
   have this:(p.1.vars.length:Int)<p.1.vars.length:=this
   omega
  ·show (base:Int)≤y.dst∧y.dst<((p.1.vars++[_]).length:Nat)
   rw[w5]
   show (base:Int)≤y.dst∧y.dst<((p.1.vars.length+1:Nat):Int)
   rcases List.mem_append.1 hy with hy|hy
   ·have:=h.new y hy hn;omega
   ·rw[List.mem_singleton.1 hy]
    show (base:Int)≤(p.1.vars.length:Int)∧(p.1.vars.length:Int)<_
    omega
  ·show ((p.2++[_]).filter _).map _=_
   rw[List.filter_append,wb,h.old]
   have:([(⟨x.op,p.1.vars.length,x.args,x.num⟩:aB)].filter fun x:aB=>decide (x.dst<(f.vars.length:Int)))=[]:=by
    rw[List.filter_cons,if_neg (by simp;omega)];rfl
   rw[this]
   exact wc _
  ·have hn:vi (p.1.now.set v.toNat p.1.vars.length) u<f.vars.length:=hn
   show vi (p.1.now.set v.toNat p.1.vars.length) u=u
   by_cases e:u=v
   ·subst e
    rw[iA g0 (by rw[h.len];exact g1)] at hn
    omega
   ·rw[lu h0 g0 e] at hn ⊢
    exact h.cur u g0 g1 hn
theorem Gc (f:ab) (p:f8) (v:Int) (x:aB):∀y∈p.2,y∈(eR f p v x).2:=fun y hy=>by
 unfold eR
 split
 ·exact hy
 ·exact List.mem_append_left _ hy
theorem gq.mono {L M:List aB} {u:Int} (h:gq f B i L u) (hs:∀x∈L,x∈M):gq f B i M u:=by
 rcases h with ⟨h,h2⟩|⟨h,h2⟩
 ·exact .inl ⟨h,h2.imp (fun ⟨x,hx,e⟩=>⟨x,hs x hx,e⟩) id⟩
 ·exact .inr ⟨h,h2.mono hs⟩
theorem ij.rel (h:ij f B i base p done) {r:sH} (hn:(0≤r.a∧r.a<f.vars.length)∧0≤r.b∧r.b<f.vars.length) (ho:fM f i [] r.a∧fM f i [] r.b):ij f B i base (gx f p r) done:=by
 have ha:=h.here hn.1.1 hn.1.2 (ho.1.mono fun x hx=>(by cases hx))
 have hb:=h.here hn.2.1 hn.2.2 (ho.2.mono fun x hx=>(by cases hx))
 unfold gx
 refine (h.put hn.1.1 hn.1.2 fun u hu=>?_).put hn.2.1 hn.2.2 fun u hu=>?_
 ·rcases List.mem_cons.1 hu with rfl|hu
  ·exact ha
  ·rw[List.mem_singleton.1 hu];exact hb
 ·refine gq.mono (L:=p.2) ?_ (Gc f p _ _)
  rcases List.mem_cons.1 hu with rfl|hu
  ·exact hb
  ·rw[List.mem_singleton.1 hu];exact ha
theorem ij.rels:∀{l:List sH} {p:f8},ij f B i base p done→(∀r∈l,((0≤r.a∧r.a<f.vars.length)∧0≤r.b∧r.b<f.vars.length)∧fM f i [] r.a∧fM f i [] r.b)→ij f B i base (l.foldl (gx f) p) done
 |[],_,h,_=>h
 |r::l,_,h,k=>by
  have:=ij.rels (l:=l) (h.rel (k r (.head _)).1 (k r (.head _)).2) fun q hq=>k q (.tail _ hq)
  exact this
theorem yU {k:Nat} {L:List aB} (ho:(L.filter fun x:aB=>decide (x.dst<(f.vars.length:Int))).map (·.dst)=((aQ f i).insts.take k).map (·.dst)) (hm:∀v q:Int,aD f v=(i,q)→0≤q→∃z,(aQ f i).insts[q.toNat]?=some z∧z.dst=v) {a:Int} (ha:bM f (aD f a) i k):fM f i L a:=by
 rcases ha with h|⟨h,h2⟩|h
 ·exact .inl h
 ·refine .inr (.inl ⟨h,?_⟩)
  by_cases hq:(aD f a).2<0
  ·exact .inl hq
  ·right
   obtain ⟨z,hz,e⟩:=hm a (aD f a).2 (Prod.ext h rfl) (by omega)
   have hzm:z∈(aQ f i).insts.take k:=by
    refine w9 (i:=(aD f a).2.toNat) ?_
    rw[List.getElem?_take,if_pos (by omega)];exact hz
   have:a∈(L.filter fun x:aB=>decide (x.dst<(f.vars.length:Int))).map (·.dst):=by
    rw[ho];exact List.mem_map.2 ⟨z,hzm,e⟩
   obtain ⟨x,hx,e2⟩:=List.mem_map.1 this
   exact ⟨x,(List.mem_filter.1 hx).1,e2⟩
 ·exact .inr (.inr h)
theorem ij.ins (h:ij f B i base p done) {y:aB} (hd:y.dst<f.vars.length) (ha:∀a∈y.args,(0≤a∧a<f.vars.length)∧fM f i p.2 a) (h2:y.op=18→∃a b,y.args=[a,b]):ij f B i base (fT f p y) (done++[y]):=by
 have hnow:∀a∈y.args,gq f B i p.2 (vi p.1.now a):=fun a hm=>h.here (ha a hm).1.1 (ha a hm).1.2 (ha a hm).2
 have h1:ij f B i base (p.1,p.2++[f9 p.1 y]) (done++[y]):=by
  refine ⟨h.len,h.vl,fun u g0 g1 hn=>(h.nd u g0 g1 hn).imp (fun ⟨x,hx,e⟩=>⟨x,List.mem_append_left _ hx,e⟩) id,yT h.inj fun hn=>?_,fun x hx hn=>?_,?_,yS h.use fun u hu=>?_,h.cur⟩
  ·have hn:(f.vars.length:Int)≤y.dst:=hn
   omega
  ·rcases List.mem_append.1 hx with hx|hx
   ·exact h.new x hx hn
   ·rw[List.mem_singleton.1 hx] at hn
    have hn:(f.vars.length:Int)≤y.dst:=hn
    omega
  ·show ((p.2++[f9 p.1 y]).filter _).map _=_
   rw[List.filter_append,wb,h.old,wb]
   have:([f9 p.1 y].filter fun x:aB=>decide (x.dst<(f.vars.length:Int)))=[f9 p.1 y]:=by
    rw[List.filter_cons,if_pos (we (show (f9 p.1 y).dst<_ from hd))];rfl
   rw[this];rfl
  ·obtain ⟨a,hm,rfl⟩:=List.mem_map.1 hu
   exact hnow a hm
 unfold fT
 split
 ·rename_i hop
  obtain ⟨a,b,hab⟩:=h2 hop
  have e0:dq y=a:=by unfold dq;rw[hab];rfl
  have e1:eU y=b:=by unfold eU;rw[hab];rfl
  rw[e0,e1]
  have hb:=ha b (by rw[hab];simp)
  refine h1.put hb.1.1 hb.1.2 fun u hu=>gq.mono (L:=p.2) ?_ fun x hx=>List.mem_append_left _ hx
  rcases List.mem_cons.1 hu with rfl|hu
  ·exact hnow b (by rw[hab];simp)
  ·rw[List.mem_singleton.1 hu];exact hnow a (by rw[hab];simp)
 ·exact h1
end
end
section
open Go.Proofs
end
end Go.Proofs.YtbbonnfjealmpaaGreatDoor
