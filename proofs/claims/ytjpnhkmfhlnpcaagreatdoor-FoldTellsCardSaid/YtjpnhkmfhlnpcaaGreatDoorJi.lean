/- The document's typed; the laws' typed, single and plain. Of programs that are little. -/
import Derived.Test.YtjpnhkmfhlnpcaaGreatDoorJh
import Derived.Test.YtjpnhkmfhlnpcaaGreatDoorJc
import Derived.Test.YtjpnhkmfhlnpcaaGreatDoorJg
import Derived.Test.YtjpnhkmfhlnpcaaGreatDoorJd
import Derived.LaidEqlPtr
set_option linter.unusedVariables false
set_option linter.unusedSimpArgs false
set_option linter.unusedSectionVars false
namespace Go.Proofs.YtjpnhkmfhlnpcaaGreatDoor
section
open Go.Proofs.Tryz
open Go.Proofs Go.Lib
theorem gD {f:ae} {x:Int} (h0:0≤x) (h1:x<f.blocks.length):bu f x∈f.blocks:=by
 unfold bu
 rw[q2 (by omega)]
 exact q6 _
theorem A8 {p:bM} (h:p.from_.length=p.args.length):(gy p).length=p.args.length:=by unfold gy;rw[List.length_zip,h];omega
theorem sg {p:bM} (h:p.from_.length=p.args.length) {a:Int} (ha:a∈p.args):∃x,(x,a)∈gy p:=by
 obtain ⟨i,hi,rfl⟩:=List.getElem_of_mem ha
 refine ⟨p.from_[i],qb (i:=i) ?_⟩
 unfold gy
 rw[List.getElem?_zip_eq_some]
 exact ⟨q2 (by omega),q2 hi⟩
theorem pg {p:bM} (h:p.from_.length=p.args.length) {x:Int} (ha:x∈p.from_):∃a,(x,a)∈gy p:=by
 obtain ⟨i,hi,rfl⟩:=List.getElem_of_mem ha
 refine ⟨p.args[i]'(by omega),qb (i:=i) ?_⟩
 unfold gy
 rw[List.getElem?_zip_eq_some]
 exact ⟨q2 hi,q2 (by omega)⟩
theorem ph {ν:Int→Int} {x:bB}:(o8 ν x).dst=if 0≤x.dst then ν x.dst else x.dst:=rfl
theorem wi {V:Int→Prop} {ν:Int→Int} {f g:ae} (hv:∀v,V v→aY g (ν v)=aY f v):∀{l:List Int},(∀v∈l,V v)→(l.map ν).map (aY g)=l.map (aY f):=fun {l} hl=>by
 rw[List.map_map]
 exact List.map_congr_left fun v h=>hv v (hl v h)
section
variable {R V:Int→Prop} {β ν:Int→Int} {f g:ae} (h:o9 R V β ν f g) (hS:bw f) (hV:∀v,V v→bf g (ν v)=true)
include h hS hV
theorem o9.blkP (hk:∀x,R x→∀p∈(bu f x).phis,∃z∈gy p,R z.1):∀c∈g.blocks,qx g c∧∃x,R x∧c=bu g (β x):=fun c hc=>by
 obtain ⟨y,hy,rfl⟩:=List.getElem_of_mem hc
 obtain ⟨x,hx,e⟩:=h.onto y (by omega) (by omega)
 have ec:g.blocks[y]=bu g (β x):=by rw[e];exact (eQ (q2 hy)).symm
 refine ⟨?_,x,hx,ec⟩
 rw[ec]
 have hr:=h.rng x hx
 have hb:=h.blk x hx
 obtain ⟨s1,s2,s3⟩:=hS.2.2.2.2.2 _ (gD hr.1.1 hr.1.2)
 have hB:∀{z:Int},R z→cW g (β z)=true:=fun {z} hz=>by
  have:=(h.rng z hz).2
  unfold cW;simp[this.1,this.2]
 refine ⟨fun q hq=>?_,fun z hz=>?_,?_⟩
 ·obtain ⟨i,hi,rfl⟩:=List.getElem_of_mem hq
  have hi2:i<(bu f x).phis.length:=by rw[←hb.nphi];exact hi
  obtain ⟨d1,d2,d3,k,k1,k2,k3,k4⟩:=hb.phi i _ _ (q2 hi2) (q2 hi)
  obtain ⟨w,hw,hwr⟩:=hk x hx _ (q6 hi2)
  have hkl:0<k.length:=List.length_pos_of_mem ((k1 w).2 ⟨hw,hwr⟩)
  have hl:=k4.length_eq
  rw[A8 d3,q9] at hl
  refine ⟨by rw[d1];exact hV _ d2,d3.symm,by omega,?_,?_⟩
  ·rw[List.all_eq_true]
   intro a ha
   obtain ⟨t,ht⟩:=sg d3 ha
   obtain ⟨z,hz,e⟩:=List.mem_map.1 (k4.mem_iff.1 ht)
   rw[←(Prod.mk.inj e).2]
   exact hV _ (k3 z hz)
  ·rw[List.all_eq_true]
   intro a ha
   obtain ⟨t,ht⟩:=pg d3 ha
   obtain ⟨z,hz,e⟩:=List.mem_map.1 (k4.mem_iff.1 ht)
   rw[←(Prod.mk.inj e).1]
   exact hB ((k1 z).1 hz).2
 ·rw[hb.insts] at hz
  obtain ⟨x',hx',rfl⟩:=List.mem_map.1 hz
  obtain ⟨x1,x2,x3,x4⟩:=s2 x' hx'
  have hiv:=hb.instv x' hx'
  refine ⟨x1,x2,?_,?_⟩
  ·unfold iw at x3 ⊢
   rw[show (o8 ν x').args.length=x'.args.length from q9 ..,ph]
   by_cases h0:0≤x'.dst
   ·have hd:V x'.dst:=hiv _ (by unfold gz;rw[if_pos h0];simp)
    have h1:=hV _ hd
    have h2:0≤ν x'.dst:=(h.vty _ hd).2.1
    rw[if_pos h0,h1,show decide (ν x'.dst=-1)=false from qf (by omega)]
    rw[show decide (x'.dst=-1)=false from qf (by omega)] at x3
    simp only[Bool.or_eq_false_iff] at x3 ⊢
    exact ⟨x3.1,x3.2.1,by simp,x3.2.2.2⟩
   ·rw[if_neg h0]
    by_cases h1:x'.dst=-1
    ·rw[qe h1] at x3 ⊢;exact x3
    ·rw[qf h1] at x3
     simp only[Bool.or_eq_false_iff] at x3
     have:=x3.2.2.1
     rw[show bf f x'.dst=false by unfold bf;simp[h0]] at this
     cases this
  ·rw[List.all_eq_true]
   intro a ha
   obtain ⟨v,hv,rfl⟩:=List.mem_map.1 ha
   exact hV _ (hiv v (List.mem_append_left _ hv))
 ·rw[hb.term]
  have hend:∀c∈aO (bu f x).term,R c:=by rw[←fN hr.1.1 hr.1.2];exact h.cl x hx
  have htv:=hb.termv
  generalize (bu f x).term=t at s3 hend htv
  unfold bb at s3 ⊢
  unfold aO at hend
  unfold gA at htv
  unfold gX
  by_cases h0:t.kind=0
  ·rw[if_pos h0] at s3 hend ⊢
   dsimp only
   rw[if_pos h0]
   simp only[qg] at s3 ⊢
   exact ⟨⟨hB (hend _ (.head _)),s3.1.2⟩,s3.2⟩
  ·rw[if_neg h0] at s3 hend htv ⊢
   have hv:=hV _ (htv _ (.head _))
   by_cases h1:t.kind=1
   ·rw[if_pos h1] at s3 hend ⊢
    dsimp only
    rw[if_neg h0,if_pos h1]
    simp only[qg] at s3 ⊢
    have e0:=hB (hend t.to0 (by split<;>simp))
    refine ⟨⟨hv,e0⟩,?_⟩
    by_cases e:t.to0=t.to1
    ·rw[←e];exact e0
    ·exact hB (hend _ (by rw[if_neg e];simp))
   ·rw[if_neg h1] at s3 ⊢
    dsimp only
    rw[if_neg h0,if_neg h1]
    by_cases h2:t.kind=2
    ·rw[if_pos h2] at s3 ⊢
     simp only[qg] at s3 ⊢
     exact ⟨hv,s3.2⟩
    ·rw[if_neg h2] at s3;cases s3
theorem o9.typed (hk:∀x,R x→∀p∈(bu f x).phis,∃z∈gy p,R z.1) (hT:aS f=true) (h1:iY g=false) (h2:∀i (h:i<g.params.length),g.params[i]=(i:Int)) (h3:∀i (h:i<g.vars.length),vW g i g.vars[i]) (h4:∀i (h:i<g.blocks.length),vX g i g.blocks[i]) (h5:du g.blocks≤1024):aS g=true:=by
 have hb:=h.blkP hS hV hk
 unfold aS
 rw[dy,qe (p:=bw g) ⟨h1,h2,h3,h4,h5,fun c hc=>(hb c hc).1⟩,Bool.true_and,List.all_eq_true]
 intro c hc
 obtain ⟨_,x,hx,ec⟩:=hb c hc
 rw[ec]
 have hr:=h.rng x hx
 have hl:=h.blk x hx
 have hm:=gD hr.1.1 hr.1.2
 obtain ⟨s1,s2,s3⟩:=hS.2.2.2.2.2 _ hm
 have ht:=List.all_eq_true.1 (show f.blocks.all (ef f)=true by unfold aS at hT;rw[qg] at hT;exact hT.2) _ hm
 have hty:∀v,V v→aY g (ν v)=aY f v:=fun v hv=>(h.vty v hv).2.2
 unfold ef at ht ⊢
 simp only[qg] at ht ⊢
 obtain ⟨⟨t1,t2⟩,t3⟩:=ht
 rw[List.all_eq_true] at t1 t2
 refine ⟨⟨?_,?_⟩,?_⟩
 ·rw[List.all_eq_true]
  intro q hq
  obtain ⟨i,hi,rfl⟩:=List.getElem_of_mem hq
  have hi2:i<(bu f x).phis.length:=by rw[←hl.nphi];exact hi
  obtain ⟨d1,d2,d3,k,k1,k2,k3,k4⟩:=hl.phi i _ _ (q2 hi2) (q2 hi)
  have g:=t1 _ (q6 hi2)
  unfold kM at g ⊢
  rw[Bool.not_eq_true',List.any_eq_false] at g ⊢
  intro a ha
  obtain ⟨t,ht⟩:=sg d3 ha
  obtain ⟨z,hz,e⟩:=List.mem_map.1 (k4.mem_iff.1 ht)
  rw[←(Prod.mk.inj e).2,d1,hty _ (k3 z hz),hty _ d2]
  exact g z.2 (List.of_mem_zip ((k1 z).1 hz).1).2
 ·rw[hl.insts,List.all_eq_true]
  intro z hz
  obtain ⟨x',hx',rfl⟩:=List.mem_map.1 hz
  have gg:=t2 x' hx'
  have hiv:=hl.instv x' hx'
  have hF:=nU (s2 x' hx')
  have hd:0≤x'.dst→aY g (o8 ν x').dst=aY f x'.dst:=fun h0=>by
   rw[ph,if_pos h0]
   exact hty _ (hiv _ (by unfold gz;rw[if_pos h0];simp))
  have hargs:∀v∈x'.args,V v:=fun v hv=>hiv v (List.mem_append_left _ hv)
  unfold fw at gg ⊢
  show (if x'.op=1 then decide (aY _ (o8 ν x').dst=aY _ ((x'.args.map ν).headD 0)) else decide ((x'.args.map ν).map (aY _)=bd x'.op)&&(!cK x'.op||decide (aY _ (o8 ν x').dst=gl x'.op)))=true
  rw[wi hty hargs]
  have hmk:cK x'.op=true→0≤x'.dst:=fun hm=>by
   rcases hF.dst with ⟨h2,_⟩|⟨_,_,h2⟩
   ·rw[h2] at hm;cases hm
   ·exact (Dc h2).2
  split
  ·rename_i e
   rw[if_pos e] at gg
   have hl:=hF.argc
   rw[e] at hl
   rw[hd (hmk (by rw[e];decide))]
   match hxa:x'.args,hl with
   |[a],_=>
    rw[hxa] at gg
    show decide (aY f x'.dst=aY _ (ν a))=true
    rw[hty a (hargs a (by rw[hxa];exact .head _))]
    exact gg
  ·rename_i e
   rw[if_neg e] at gg
   simp only[qg,Bool.or_eq_true] at gg ⊢
   refine ⟨gg.1,?_⟩
   rcases gg.2 with k|k
   ·exact .inl k
   ·by_cases hmm:cK x'.op=true
    ·right;rw[hd (hmk hmm)];exact k
    ·left;simpa using hmm
 ·rw[hl.term]
  have htv:=hl.termv
  have hend:∀c∈aO (bu f x).term,R c:=by rw[←fN hr.1.1 hr.1.2];exact h.cl x hx
  generalize (bu f x).term=t at t3 hend htv
  have hne:∀c,R c→¬c=0→¬β c=0:=fun c hc hn e=>hn (h.inj c 0 hc h.r0 (by rw[e,h.b0]))
  unfold bQ at t3 ⊢
  unfold aO at hend
  unfold gA at htv
  unfold gX
  by_cases h0:t.kind=0
  ·rw[if_pos h0] at t3 hend ⊢
   dsimp only
   rw[if_pos h0]
   simp only[Bool.not_eq_true',decide_eq_false_iff_not] at t3 ⊢
   exact hne _ (hend _ (.head _)) t3
  ·rw[if_neg h0] at t3 hend htv ⊢
   have hv:=hty _ (htv _ (.head _))
   by_cases h1:t.kind=1
   ·rw[if_pos h1] at t3 hend ⊢
    dsimp only
    rw[if_neg h0,if_pos h1]
    simp only[qg,Bool.not_eq_true',decide_eq_false_iff_not] at t3 ⊢
    refine ⟨⟨by rw[hv];exact t3.1.1,hne _ (hend t.to0 (by split<;>simp)) t3.1.2⟩,?_⟩
    by_cases e:t.to0=t.to1
    ·rw[←e];exact hne _ (hend t.to0 (by split<;>simp)) t3.1.2
    ·exact hne _ (hend _ (by rw[if_neg e];simp)) t3.2
   ·rw[if_neg h1] at t3 ⊢
    dsimp only
    rw[if_neg h0,if_neg h1,hv];exact t3
omit h hS hV in
theorem pi {R:Int→Prop} {β:Int→Int} (hi:∀x y,R x→R y→β x=β y→x=y) {l:List Int} (hl:∀c∈l,R c) {x:Int} (hx:R x):β x∈l.map β↔x∈l:=by
 rw[List.mem_map]
 exact ⟨fun ⟨c,hc,e⟩=>hi c x (hl c hc) hx e▸hc,fun h=>⟨x,h,rfl⟩⟩
omit hS hV in
theorem o9.joined (hD:∀x,R x→∀p∈(bu f x).phis,r7 p) (hP:∀x,R x→∀p∈(bu f x).phis,p.from_.length=p.args.length) (hJ:eb f):eb g:=fun y hy q hq=>by
 obtain ⟨x,hx,e⟩:=h.onto y (by omega) (by omega)
 have ec:g.blocks[y]=bu g (β x):=by rw[e];exact (eQ (q2 hy)).symm
 rw[ec] at hq
 have hr:=h.rng x hx
 have hb:=h.blk x hx
 obtain ⟨i,hi,rfl⟩:=List.getElem_of_mem hq
 have hi2:i<(bu f x).phis.length:=by rw[←hb.nphi];exact hi
 have hpm:=q6 hi2
 obtain ⟨d1,d2,d3,k,k1,k2,k3,k4⟩:=hb.phi i _ _ (q2 hi2) (q2 hi)
 have hpn:=hD x hx _ hpm
 have hj:(bu f x).phis[i].from_.Perm (bn (au f) f.blocks.length x):=by
  have hxl:x.toNat<f.blocks.length:=by omega
  have:=hJ x.toNat hxl (bu f x).phis[i] (by
   have e:f.blocks[x.toNat]=bu f x:=by unfold bu;rw[q2 hxl];rfl
   rw[e];exact hpm)
  rwa [Int.toNat_of_nonneg hr.1.1] at this
 have hG:=h.okg.grph
 have hF:=h.okf.grph
 rw[←e]
 have efst:∀{p:bM},p.from_.length=p.args.length→(gy p).map (·.1)=p.from_:=fun {p} hp=>by
  unfold gy
  rw[List.map_fst_zip (by omega)]
 refine (List.perm_ext_iff_of_nodup ?_ (cR (fun b=>?_) _ _).1).2 fun c=>?_
 ·rw[←efst d3]
  refine (k4.map (·.1)).nodup_iff.2 ?_
  rw[List.map_map]
  have hkn:(k.map (·.1)).Nodup:=(k2.map _).nodup hpn
  have:∀l:List (Int × Int),(∀z∈l,R z.1)→(l.map (·.1)).Nodup→(l.map ((fun z:Int × Int=>z.1)∘fun z=>(β z.1,ν z.2))).Nodup:=by
   intro l
   induction l with
   |nil=>intro _ _;simp
   |cons z l ih=>
    intro h1 h2
    rw[List.map_cons,List.nodup_cons] at h2 ⊢
    refine ⟨fun hm=>?_,ih (fun z hz=>h1 z (.tail _ hz)) h2.2⟩
    obtain ⟨w,hw,e⟩:=List.mem_map.1 hm
    exact h2.1 (List.mem_map.2 ⟨w,hw,h.inj _ _ (h1 w (.tail _ hw)) (h1 z (.head _)) e⟩)
  exact this k (fun z hz=>((k1 z).1 hz).2) hkn
 ·exact cf g b
 ·rw[bI hG.toEOk hG.out,←efst d3,(k4.map (·.1)).mem_iff,List.map_map,List.mem_map]
  constructor
  ·rintro ⟨z,hz,e2⟩
   have e2:β z.1=c:=e2
   obtain ⟨z1,z2⟩:=(k1 z).1 hz
   rw[←e2,h.leads z2,pi h.inj (h.cl _ z2) hx]
   exact (bI hF.toEOk hF.out).1 (hj.mem_iff.1 (by rw[←efst (hP x hx _ hpm)];exact List.mem_map_of_mem z1))
  ·intro hc
   by_cases hcr:0≤c∧c<g.blocks.length
   ·obtain ⟨w,hw,rfl⟩:=h.onto c hcr.1 hcr.2
    rw[h.leads hw,pi h.inj (h.cl _ hw) hx] at hc
    have:=hj.mem_iff.2 ((bI hF.toEOk hF.out).2 hc)
    rw[←efst (hP x hx _ hpm)] at this
    obtain ⟨z,hz,e3⟩:=List.mem_map.1 this
    exact ⟨z,(k1 z).2 ⟨hz,by rw[e3];exact hw⟩,by show β z.1=_;rw[e3]⟩
   ·rw[hG.out c hcr] at hc;cases hc
end
end
section
open Go.Proofs.Tryz
open Go.Proofs Go.Lib
theorem eR {f:ae} (h:aS f=true):bw f:=by
 unfold aS at h
 rw[qg,dy] at h
 exact of_decide_eq_true h.1
theorem eS {f:ae} (h:aS f=true):bk f:=(eR h).ends
theorem si {p:bM} (h:p.from_.length=p.args.length):(gy p).map (·.1)=p.from_:=by unfold gy;rw[List.map_fst_zip (by omega)]
section
variable {f:ae}
theorem A9 {x:Int} (h0:0≤x) (h1:x<f.blocks.length):f.blocks[x.toNat]'(by omega)=bu f x:=by unfold bu;rw[q2 (by omega)];rfl
theorem jY (hJ:eb f) {x:Int} (h0:0≤x) (h1:x<f.blocks.length) {p:bM} (hp:p∈(bu f x).phis):p.from_.Perm (bn (au f) f.blocks.length x):=by
 have:=hJ x.toNat (by omega) p (by rw[A9 h0 h1];exact hp)
 rwa [Int.toNat_of_nonneg h0] at this
theorem fx (hS:bw f) {x:Int} (h0:0≤x) (h1:x<f.blocks.length) {p:bM} (hp:p∈(bu f x).phis):nQ f p:=(hS.2.2.2.2.2 _ (gD h0 h1)).1 p hp
theorem xN (hS:bw f) (hJ:eb f) {x:Int} (h0:0≤x) (h1:x<f.blocks.length) {p:bM} (hp:p∈(bu f x).phis):r7 p:=by
 unfold r7
 rw[si (fx hS h0 h1 hp).2.1.symm]
 exact (jY hJ h0 h1 hp).nodup_iff.2 (cR (fun b=>cf f b) _ _).1
theorem pj (hT:aS f=true) {x:Int}:(0:Int) ∉ au f x:=fun hm=>by
 have hG:=(eS hT).grph
 by_cases hx:0≤x∧x<f.blocks.length
 ·have ht:bQ f (bu f x).term=true:=by
   have h2:f.blocks.all (ef f)=true:=by unfold aS at hT;rw[qg] at hT;exact hT.2
   have:=List.all_eq_true.1 h2 _ (gD hx.1 hx.2)
   unfold ef at this
   simp only[qg] at this
   exact this.2
  rw[fN hx.1 hx.2] at hm
  generalize (bu f x).term=t at hm ht
  unfold aO at hm
  unfold bQ at ht
  by_cases h0:t.kind=0
  ·rw[if_pos h0] at hm ht
   have:=List.mem_singleton.1 hm
   rw[←this] at ht;simp at ht
  ·rw[if_neg h0] at hm ht
   by_cases h1:t.kind=1
   ·rw[if_pos h1] at hm ht
    simp only[qg,Bool.not_eq_true',decide_eq_false_iff_not] at ht
    split at hm
    ·exact ht.1.2 (List.mem_singleton.1 hm).symm
    ·rcases List.mem_cons.1 hm with e|e
     ·exact ht.1.2 e.symm
     ·exact ht.2 (List.mem_singleton.1 e).symm
   ·rw[if_neg h1] at hm;cases hm
 ·rw[hG.out x hx] at hm;cases hm
theorem pk (hT:aS f=true) (hJ:eb f) {x:Int} (hx:x∈eh f) {p:bM} (hp:p∈(bu f x).phis):∃z∈gy p,z.1∈eh f:=by
 have hS:=eR hT
 have hE:=eS hT
 have hG:=hE.grph
 have hr:=bm hG.toEOk hx
 have hs:=fx hS hr.1 hr.2 hp
 have hj:=jY hJ hr.1 hr.2 hp
 have hne:x≠0:=fun e=>by
  have hl:0<p.from_.length:=by have:=hs.2.1;have:=hs.2.2.1;omega
  have hm:=hj.mem_iff.1 (q6 hl)
  have:=(bI hG.toEOk hG.out).1 hm
  rw[e] at this
  exact pj hT this
 obtain ⟨k,hk⟩:=List.getElem?_of_mem hx
 obtain ⟨j,y,_,hy,hyx⟩:=m5 hG.toEOk k x hk hne
 have hyo:y∈eh f:=qb hy
 obtain ⟨a,ha⟩:=pg hs.2.1.symm (hj.mem_iff.2 ((bI hG.toEOk hG.out).2 hyx))
 exact ⟨_,ha,hyo⟩
theorem xO (hS:bw f) {a b:Nat} (ha:a<f.blocks.length) (hb:b<f.blocks.length) (h:a≠b):f.blocks[a].name≠f.blocks[b].name:=by
 have aux:∀{a b:Nat} (hb:b<f.blocks.length) (h:a<b),(f.blocks[a]'(by omega)).name≠f.blocks[b].name:=fun {a b} hb h=>by
  refine (hS.2.2.2.1 b hb).2 _ (List.mem_map.2 ⟨f.blocks[a],?_,Z⟩)
  refine qb (i:=a) ?_
  rw[List.getElem?_take,if_pos h,q2]
 rcases Nat.lt_or_gt_of_ne h with k|k
 ·exact aux hb k
 ·exact fun e=>aux ha k e.symm
theorem Ba {g:Nat→Nat} {l m:List Nat} (h:List.Sublist l m):(l.map g).sum≤(m.map g).sum:=by
 induction h with
 |slnil=>exact Nat.le_refl _
 |cons a _ ih=>rw[List.map_cons,List.sum_cons];omega
 |cons_cons a _ ih=>rw[List.map_cons,List.map_cons,List.sum_cons,List.sum_cons];omega
theorem pm (hT:aS f=true) (hJ:eb f):aS (bt f)=true∧eb (bt f):=by
 have hS:=eR hT
 have hE:=eS hT
 have h:=qM hE hS hJ
 have hl:(bt f).blocks.length=(gB f).length:=q9 ..
 have hle:(gB f).length≤f.blocks.length:=by
  have:=List.length_filter_le (fun b:Nat=>decide ((b:Int)∈eh f)) (List.range f.blocks.length)
  rw[List.length_range] at this;exact this
 have hpos:=(l4 hE).pos
 have hrl:∀{i:Nat} (hi:i<(gB f).length),(gB f)[i]<f.blocks.length:=fun hi=>List.mem_range.1 (List.mem_filter.1 (q6 hi)).1
 have hrg:∀{x:Int},x∈eh f→0≤x∧x<f.blocks.length:=fun hx=>bm hE.grph.toEOk hx
 have hbn:∀i (hi:i<(bt f).blocks.length),(bt f).blocks[i].name=(f.blocks[(gB f)[i]'(by omega)]'(hrl (by omega))).name:=fun i hi=>by
  have e:(bt f).blocks[i]=eP (bO f) (cY f ((gB f)[i]'(by omega))) (bu f ((gB f)[i]'(by omega):Nat)):=List.getElem_map ..
  rw[e]
  show (bu f _).name=_
  rw[eQ (q2 (hrl (by omega)))]
 refine ⟨h.typed hS (fun v hv=>hv) (fun x hx p hp=>pk hT hJ hx hp) hT ?_ hS.2.1 hS.2.2.1 (fun i hi=>?_) ?_,h.joined (fun x hx p hp=>xN hS hJ (hrg hx).1 (hrg hx).2 hp) (fun x hx p hp=>(fx hS (hrg hx).1 (hrg hx).2 hp).2.1.symm) hJ⟩
 ·have h1:=hS.1
  unfold iY at h1 ⊢
  simp only[Bool.or_eq_false_iff,decide_eq_false_iff_not] at h1 ⊢
  refine ⟨h1.1,h1.2.1,h1.2.2.1,by omega,by omega⟩
 ·have hi2:i<(gB f).length:=by omega
  refine ⟨by rw[hbn i hi];exact (hS.2.2.2.1 _ (hrl hi2)).1,fun s hs=>?_⟩
  obtain ⟨c,hc,rfl⟩:=List.mem_map.1 hs
  obtain ⟨j,hj⟩:=List.getElem?_of_mem hc
  rw[List.getElem?_take] at hj
  split at hj
  ·rename_i hji
   have hj2:j<(bt f).blocks.length:=by omega
   rw[q2 hj2] at hj
   rw[←Option.some.inj hj,hbn i hi,hbn j hj2]
   exact xO hS _ _ fun e=>by
    have:=(List.getElem_inj pa (h₀:=by omega) (h₁:=hi2)).1 e
    omega
  ·cases hj
 ·refine Nat.le_trans ?_ hS.2.2.2.2.1
  unfold du
  show (((gB f).map _).map _).sum≤_
  rw[List.map_map]
  have e1:f.blocks.map (fun b:az=>b.phis.length+b.insts.length)=(List.range f.blocks.length).map fun b:Nat=>(bu f b).phis.length+(bu f b).insts.length:=by
   apply List.ext_getElem
   ·simp
   ·intro i h1 h2
    rw[List.getElem_map,List.getElem_map,List.getElem_range,eQ (q2 (by simpa using h1))]
  rw[e1]
  refine Nat.le_trans (Nat.le_of_eq ?_) (Ba (List.filter_sublist (p:=fun b:Nat=>decide ((b:Int)∈eh f))))
  congr 1
  refine List.map_congr_left fun b _=>?_
  show ((bu f b).phis.map _).length+_=_
  rw[q9];rfl
theorem kB (hs:small f):small (bt f):=by
 obtain ⟨h1,h2,h3,h4,h5⟩:=hs
 refine ⟨h1,h2,?_,h4,fun c hc=>?_⟩
 ·show ((gB f).map _).length≤_
  rw[q9]
  have:=List.length_filter_le (fun b:Nat=>decide ((b:Int)∈eh f)) (List.range f.blocks.length)
  rw[List.length_range] at this
  unfold gB;omega
 ·obtain ⟨b,hb,rfl⟩:=List.mem_map.1 hc
  have hb2:b<f.blocks.length:=List.mem_range.1 (List.mem_filter.1 hb).1
  obtain ⟨g1,g2,g3,g4,g5⟩:=h5 _ (gD (f:=f) (x:=b) (by omega) (by omega))
  refine ⟨g1,by show (List.map _ _).length≤_;rw[q9];exact g2,g3,fun q hq=>?_,g5⟩
  obtain ⟨p,hp,rfl⟩:=List.mem_map.1 hq
  have:=g4 p hp
  have hk:=List.length_filter_le (fun z:Int × Int=>decide (z.1∈cY f b∧0≤bO f z.1)) (gy p)
  have hz:(gy p).length≤p.args.length:=by unfold gy;rw[List.length_zip];omega
  have e1:(bS (bO f) (cY f b) p).args.length=(ff (bO f) (cY f b) p).length:=q9 ..
  have e2:(bS (bO f) (cY f b) p).from_.length=(ff (bO f) (cY f b) p).length:=q9 ..
  rw[e1,e2]
  unfold ff
  omega
end
end
section
open Go.Proofs.Tryz
open Go.Proofs Go.Lib
def wj (F:Nat→az→az) (f:ae):ae:={ f with blocks:=f.blocks.mapIdx F }
section
variable {F:Nat→az→az} {f:ae}
theorem fP (i:Nat):(wj F f).blocks[i]?=(f.blocks[i]?).map (F i):=List.getElem?_mapIdx
theorem l6:(wj F f).blocks.length=f.blocks.length:=List.length_mapIdx
theorem sj:cW (wj F f)=cW f:=by funext v;unfold cW;rw[l6]
theorem xP {c:az} (h:c∈(wj F f).blocks):∃i b,f.blocks[i]?=some b∧c=F i b:=by
 obtain ⟨i,hi⟩:=List.getElem?_of_mem h
 rw[fP] at hi
 obtain ⟨b,hb,e⟩:=Option.map_eq_some_iff.1 hi
 exact ⟨i,b,hb,e.symm⟩
theorem sk:∀(l:List az) (F:Nat→az→az),(∀i b,l[i]?=some b→(F i b).phis.length+(F i b).insts.length≤b.phis.length+b.insts.length)→du (l.mapIdx F)≤du l
 |[],_,_=>Nat.le_refl _
 |b::l,F,h=>by
  have h1:=h 0 b rfl
  have h2:=sk l (fun i=>F (i+1)) fun i c hc=>h (i+1) c (by rw[List.getElem?_cons_succ];exact hc)
  rw[List.mapIdx_cons]
  unfold du at *
  simp only[List.map_cons,List.sum_cons]
  omega
def Bb (F:Nat→az→az) (f:ae):Prop:=∀(i:Nat) (b:az),f.blocks[i]?=some b→(F i b).name=b.name∧(F i b).insts=b.insts∧(F i b).phis.length≤b.phis.length∧(∀p∈(F i b).phis,nQ f p∧kM f p=true)∧bb f (F i b).term=true∧bQ f (F i b).term=true
theorem pn (h:Bb F f):(wj F f).blocks.map (·.name)=f.blocks.map (·.name):=by
 refine List.ext_getElem? fun i=>?_
 rw[qa,qa,fP]
 cases hb:f.blocks[i]? with
 |none=>rfl
 |some b=>exact congrArg some (h i b hb).1
theorem pp (hT:aS f=true) (h:Bb F f):aS (wj F f)=true:=by
 have hS:=eR hT
 have hS2:bw (wj F f):=by
  obtain ⟨h1,h2,h3,h4,h5,h6⟩:=hS
  refine ⟨?_,h2,h3,fun i hi=>?_,Nat.le_trans (sk f.blocks F fun i b hb=>?_) h5,fun c hc=>?_⟩
  ·unfold iY at h1 ⊢;rw[l6];exact h1
  ·have hi2:i<f.blocks.length:=by rw[←l6 (F:=F)];exact hi
   have hn:(wj F f).blocks[i].name=f.blocks[i].name:=by
    have:=congrArg (fun m:List ByteArray=>m[i]?) (pn h)
    simp only[qa,q2 hi,q2 hi2,Option.map_some,Option.some.injEq] at this
    exact this
   obtain ⟨g1,g2⟩:=h4 i hi2
   unfold vX
   rw[hn]
   refine ⟨g1,?_⟩
   rw[List.map_take,pn h,←List.map_take]
   exact g2
  ·obtain ⟨_,h8,h9,_⟩:=h i b hb
   rw[h8];omega
  ·obtain ⟨i,b,hb,rfl⟩:=xP hc
   obtain ⟨_,g2,_⟩:=h6 b (qb hb)
   obtain ⟨_,k2,_,k4,k5,_⟩:=h i b hb
   refine ⟨fun p hp=>?_,fun x hx=>g2 x (by rw[←k2];exact hx),?_⟩
   ·have:=(k4 p hp).1
    unfold nQ at this ⊢
    rw[sj]
    exact this
   ·have:bb (wj F f) (F i b).term=bb f (F i b).term:=by unfold bb;rw[sj];rfl
    rw[this];exact k5
 unfold aS at hT ⊢
 simp only[qg] at hT ⊢
 refine ⟨by rw[dy];exact qe hS2,?_⟩
 rw[List.all_eq_true] at hT ⊢
 intro c hc
 obtain ⟨i,b,hb,rfl⟩:=xP hc
 have hb2:=hT.2 b (qb hb)
 obtain ⟨_,k2,_,k4,_,k6⟩:=h i b hb
 unfold ef at hb2 ⊢
 simp only[qg] at hb2 ⊢
 refine ⟨⟨List.all_eq_true.2 fun p hp=>(k4 p hp).2,?_⟩,k6⟩
 rw[k2];exact hb2.1.2
theorem sm {x:Int} (h0:0≤x) (h1:x<f.blocks.length):bu (wj F f) x=F x.toNat (bu f x):=by
 unfold bu
 rw[fP,q2 (by omega)];rfl
theorem Bc (x:Int) (h:∀i b,f.blocks[i]?=some b→aO (F i b).term=aO b.term):au (wj F f) x=au f x:=by
 unfold au
 split
 ·rw[fP]
  cases hb:f.blocks[x.toNat]? with
  |none=>rfl
  |some b=>exact h _ b hb
 ·rfl
end
def bT (w:Int) (t:b9):b9:=if t.kind=1 then if w=1 then ⟨0,0,t.to0,0⟩ else if w=2 then ⟨0,0,t.to1,0⟩ else t else t
def fy (l:List Int) (i:Nat) (b:az):az:={ b with term:=bT ((l[i]?).getD 0) b.term }
def bp (l:List Int) (f:ae):ae:=wj (fy l) f
theorem qR (w:Int) (t:b9):∀c∈aO (bT w t),c∈aO t:=by
 intro c hc
 unfold bT at hc
 split at hc
 ·rename_i hk
  split at hc
  ·have hc:c=t.to0:=by simpa [aO] using hc
   unfold aO
   rw[if_neg (by omega),if_pos hk,hc];split<;>simp
  ·split at hc
   ·have hc:c=t.to1:=by simpa [aO] using hc
    unfold aO
    rw[if_neg (by omega),if_pos hk,hc]
    split
    ·rename_i e;rw[e];simp
    ·simp
   ·exact hc
 ·exact hc
section
variable {f:ae} {l:List Int}
theorem wk (hT:aS f=true):Bb (fy l) f:=fun i b hb=>by
 have hm:=qb hb
 have hS:=(eR hT).2.2.2.2.2 b hm
 have hB:ef f b=true:=by
  unfold aS at hT
  rw[qg,List.all_eq_true] at hT
  exact hT.2 b hm
 unfold ef at hB
 simp only[qg,List.all_eq_true] at hB
 refine ⟨Z,Z,Nat.le_refl _,fun p hp=>⟨hS.1 p hp,hB.1.1 p hp⟩,?_⟩
 have h1:=hS.2.2
 have h2:=hB.2
 show bb f (bT _ b.term)=true∧bQ f (bT _ b.term)=true
 unfold bT
 split
 ·rename_i hk
  unfold bb at h1
  unfold bQ at h2
  rw[if_neg (by omega),if_pos hk] at h1 h2
  simp only[qg] at h1 h2
  split
  ·exact ⟨by unfold bb;rw[if_pos rfl];simp[h1.1.2],by unfold bQ;rw[if_pos rfl];exact h2.1.2⟩
  ·split
   ·exact ⟨by unfold bb;rw[if_pos rfl];simp[h1.2],by unfold bQ;rw[if_pos rfl];exact h2.2⟩
   ·exact ⟨hS.2.2,hB.2⟩
 ·exact ⟨h1,h2⟩
theorem fQ (hT:aS f=true):aS (bp l f)=true:=pp hT (wk hT)
theorem wl {x c:Int} (h:c∈au (bp l f) x):c∈au f x:=by
 unfold au at *
 split at h
 ·rename_i h0
  rw[if_pos h0]
  have e:(bp l f).blocks[x.toNat]?=(f.blocks[x.toNat]?).map (fy l x.toNat):=fP _
  rw[e] at h
  cases hb:f.blocks[x.toNat]? with
  |none=>rw[hb] at h;cases h
  |some b=>rw[hb] at h;exact qR _ _ _ h
 ·cases h
end
def gE (fr:List Int) (p:bM):List (Int × Int):=(gy p).filter fun z=>decide (z.1∈fr)
def iE (fr:List Int) (p:bM):bM:=⟨p.dst,(gE fr p).map (·.2),(gE fr p).map (·.1)⟩
def fR (fr:List Int) (ps:List bM):List bM:=if fr=[] then[] else ps.map (iE fr)
def xQ (g:ae) (i:Nat) (b:az):az:={ b with phis:=fR (cY g i) b.phis }
def eU (g:ae):ae:=wj (xQ g) g
theorem pq:∀l:List (Int × Int),(l.map (·.1)).zip (l.map (·.2))=l
 |[]=>rfl
 |z::l=>by rw[List.map_cons,List.map_cons,List.zip_cons_cons,pq l]
theorem wm (fr:List Int) (p:bM):gy (iE fr p)=gE fr p:=pq _
theorem l7 {fr:List Int} {p:bM} (h:p.from_.length=p.args.length):(iE fr p).from_=p.from_.filter fun a=>decide (a∈fr):=by
 show (gE fr p).map (·.1)=_
 rw[←si h,List.filter_map];rfl
theorem l8 {fr:List Int} {p:bM} {z:Int × Int} (h:z∈gE fr p):z.1∈p.from_∧z.2∈p.args:=List.of_mem_zip (List.mem_filter.1 h).1
def sn (g:ae):Prop:=∀(i:Nat) (b:az),g.blocks[i]?=some b→∀p∈b.phis,(p.from_.filter fun a=>decide (a∈cY g i)).Perm (cY g i)
section
variable {g:ae}
theorem iF:au (eU g)=au g:=by funext x;exact Bc x fun _ _ _=>rfl
theorem fz:(eU g).blocks.length=g.blocks.length:=l6
theorem nt:eh (eU g)=eh g:=by unfold eh;rw[iF,fz]
theorem xR (b:Nat):cY (eU g) b=cY g b:=by unfold cY;rw[iF,fz]
theorem pt:gB (eU g)=gB g:=by unfold gB;rw[nt,fz]
theorem wn:bO (eU g)=bO g:=by funext x;unfold bO;rw[nt,pt]
theorem xS (hT:aS g=true) (hW:sn g):Bb (xQ g) g:=fun i b hb=>by
 have hm:=qb hb
 have hS:=(eR hT).2.2.2.2.2 b hm
 have hB:ef g b=true:=by
  unfold aS at hT
  rw[qg,List.all_eq_true] at hT
  exact hT.2 b hm
 unfold ef at hB
 simp only[qg,List.all_eq_true] at hB
 refine ⟨Z,Z,?_,fun p hp=>?_,hS.2.2,hB.2⟩
 ·show (fR _ b.phis).length≤_
  unfold fR
  split
  ·exact q5 _
  ·rw[q9];exact Nat.le_refl _
 ·have hp:p∈fR (cY g i) b.phis:=hp
  unfold fR at hp
  split at hp
  ·cases hp
  ·rename_i hne
   obtain ⟨q,hq,rfl⟩:=List.mem_map.1 hp
   obtain ⟨s1,s2,s3,s4,s5⟩:=hS.1 q hq
   have hlen:(iE (cY g i) q).args.length=(iE (cY g i) q).from_.length:=by
    show ((gE _ q).map _).length=((gE _ q).map _).length
    rw[q9,q9]
   refine ⟨⟨s1,hlen,?_,?_,?_⟩,?_⟩
   ·rw[hlen,l7 s2.symm,(hW i b hb q hq).length_eq]
    exact List.length_pos_iff.2 hne
   ·refine List.all_eq_true.2 fun v hv=>?_
    obtain ⟨z,hz,rfl⟩:=List.mem_map.1 hv
    exact List.all_eq_true.1 s4 _ (l8 hz).2
   ·refine List.all_eq_true.2 fun v hv=>?_
    obtain ⟨z,hz,rfl⟩:=List.mem_map.1 hv
    exact List.all_eq_true.1 s5 _ (l8 hz).1
   ·have h2:=hB.1.1 q hq
    unfold kM at h2 ⊢
    rw[Bool.not_eq_true'] at h2 ⊢
    rw[List.any_eq_false] at h2 ⊢
    intro v hv
    obtain ⟨z,hz,rfl⟩:=List.mem_map.1 hv
    exact h2 _ (l8 hz).2
theorem pu (hT:aS g=true) (hW:sn g):aS (eU g)=true:=pp hT (xS hT hW)
theorem qS (hT:aS g=true) (hW:sn g):eb (eU g):=fun i hi p hp=>by
 have hi2:i<g.blocks.length:=by rw[←fz];exact hi
 have e:(eU g).blocks[i]=xQ g i g.blocks[i]:=by
  have:=fP (F:=xQ g) (f:=g) i
  rw[q2 hi2,Option.map_some] at this
  exact (List.getElem?_eq_some_iff.1 this).2
 rw[e] at hp
 have hp:p∈fR (cY g i) g.blocks[i].phis:=hp
 rw[iF,fz]
 unfold fR at hp
 split at hp
 ·cases hp
 ·obtain ⟨q,hq,rfl⟩:=List.mem_map.1 hp
  have hs:=((eR hT).2.2.2.2.2 _ (q6 hi2)).1 q hq
  rw[l7 hs.2.1.symm]
  exact hW i _ (q2 hi2) q hq
theorem px (hT:aS g=true) (h0:(bu g 0).phis=[]):bt (eU g)=bt g:=by
 have hE:=eS hT
 unfold bt
 rw[pt,wn]
 show ae.mk g.vars g.params _=_
 congr 1
 refine List.map_congr_left fun b hb=>?_
 have hbo:=(l3 hE).1 hb
 have hr:=bm hE.grph.toEOk hbo
 rw[xR]
 have e:bu (eU g) b=xQ g b (bu g b):=sm hr.1 hr.2
 rw[e]
 unfold eP
 show az.mk _ _ _ _=_
 congr 1
 show (fR (cY g b) (bu g b).phis).map _=_
 unfold fR
 split
 ·rename_i hn
  by_cases hz:(b:Int)=0
  ·rw[hz,h0]
  ·exfalso
   obtain ⟨k,hk⟩:=List.getElem?_of_mem hbo
   obtain ⟨j,y,_,hy,hyx⟩:=m5 hE.grph.toEOk k b hk hz
   have:y∈cY g b:=(bI hE.grph.toEOk hE.grph.out).2 hyx
   rw[hn] at this;cases this
 ·rw[List.map_map]
  refine List.map_congr_left fun p _=>?_
  show bS _ _ (iE _ p)=_
  have hk:ff (bO g) (cY g b) (iE (cY g b) p)=ff (bO g) (cY g b) p:=by
   unfold ff
   rw[wm]
   unfold gE
   rw[List.filter_filter]
   refine List.filter_congr fun z _=>?_
   by_cases h:z.1∈cY g b<;>simp[h]
  unfold bS
  rw[hk];rfl
end
section
variable {f:ae} {l:List Int}
theorem qT (hT:aS f=true) (hJ:eb f):(bu f 0).phis=[]:=by
 have hE:=eS hT
 refine List.eq_nil_iff_forall_not_mem.2 fun p hp=>?_
 have hpos:(0:Int)<f.blocks.length:=by have:=hE.pos;omega
 have hs:=fx (eR hT) (Int.le_refl 0) hpos hp
 have hl:0<p.from_.length:=by have:=hs.2.1;have:=hs.2.2.1;omega
 have hm:=(jY hJ (Int.le_refl 0) hpos hp).mem_iff.1 (q6 hl)
 exact pj hT ((bI hE.grph.toEOk hE.grph.out).1 hm)
theorem qU (hT:aS f=true) (hJ:eb f):sn (bp l f):=fun i b hb p hp=>by
 have hE:=eS hT
 have hEg:=eS (fQ (l:=l) hT)
 have e:(bp l f).blocks[i]?=(f.blocks[i]?).map (fy l i):=fP i
 rw[e] at hb
 obtain ⟨c,hc,rfl⟩:=Option.map_eq_some_iff.1 hb
 obtain ⟨hi,rfl⟩:=List.getElem?_eq_some_iff.1 hc
 have hper:=hJ i hi p hp
 refine (hper.filter _).trans ?_
 have n1:=(cR (fun b=>cf f b) f.blocks.length i).1
 have n2:=(cR (fun b=>cf (bp l f) b) (bp l f).blocks.length i).1
 refine (List.perm_ext_iff_of_nodup (n1.filter _) n2).2 fun a=>?_
 rw[List.mem_filter,qh]
 constructor
 ·exact fun h=>h.2
 ·exact fun h=>⟨(bI hE.grph.toEOk hE.grph.out).2 (wl ((bI hEg.grph.toEOk hEg.grph.out).1 h)),h⟩
theorem qV (hT:aS f=true) (hJ:eb f):(bu (bp l f) 0).phis=[]:=by
 have hpos:(0:Int)<f.blocks.length:=by have:=(eS hT).pos;omega
 have e:bu (bp l f) 0=fy l 0 (bu f 0):=sm (Int.le_refl 0) hpos
 rw[e]
 exact qT hT hJ
theorem py (hT:aS f=true) (hJ:eb f):aS (bt (bp l f))=true∧eb (bt (bp l f)):=by
 have hTg:=fQ (l:=l) hT
 have hW:=qU (l:=l) hT hJ
 rw[←px hTg (qV hT hJ)]
 exact pm (pu hTg hW) (qS hTg hW)
end
end
section
open Go.Proofs.Tryz
open Go.Proofs Go.Lib Go.Shelf Go.RowKit
variable {E:World}
set_option maxRecDepth 20000
theorem iG (f:ae) (hf:small f) (hL:ah E):aT prog E 36 [.agg (bC f)] (.bool (aS f)):=by
 refine zo func36 Z (by decide) Z<|ai<|y9 (cs:=_) Z Z Z<|ad Z<|z7<|ai<|ab jh j8 Z Z<|ze (qL f hf hL) Z<|aq Z Z<|ad Z<|z7<|zg<|zi (x:=.bool _) Z ?_
 cases aS f<;>rfl
theorem kC {f:ae} (h:aS f=true):bk f:=by
 unfold aS at h
 rw[qg,dy] at h
 exact (of_decide_eq_true h.1).ends
theorem CM (f:ae) (hf:small f) (hL:ah E) (ht:aS f=true):aT prog E 95 [.agg (bC f)] (AJ eI (cL f f.blocks.length)):=by
 have hn:=hf.2.2.1
 refine zo func95 Z (by decide) Z<|ai<|y9 (cs:=_) Z Z Z<|za (nc Z)<|z7<|zb<|ai<|ab jh j8 Z Z<|ze (iG f hf hL) Z<|aH Z<|z7<|yd Z (by rw[ht];rfl)<|zf<|ai<|ab jh j8 Z Z<|ze (ir f (kC ht) (by omega)) Z<|za (w8 Z)<|z7<|zg<|zi (x:=.fro _ _) Z ?_
 rfl
theorem pz (f:ae) (hE:bk f) (hn:f.blocks.length≤1000):aT prog E 67 [.agg (bC f)] (.fro 1 ((bP (au f) f.blocks.length).map bh)):=
 qw f hE (by omega) fun l i T h=>oW l i T h
def Ea (x:Bool):List AV:=[.bool x]
theorem qW (f:ae) (hE:bk f) (hn:f.blocks.length≤1000):aT prog E 40 [.agg (bC f)] (.fro 1 ((qs (au f) f.blocks.length).map Ea)):=by
 have hG:=hE.grph
 have hol:=vE hG
 refine zo func40 Z (by decide) Z<|ai<|y9 (cs:=_) Z Z Z<|za (nc Z)<|z7<|ai<|ap j6 Z ji Z Z<|aP js Z<|ac ja Z<|ao.makeB (m:=f.blocks.length) jx type4 Z Z Z Z Z (by simp) (by simp) (by show (1:Int)*_≤_;omega) (by omega)<|fun i9=>za (mQ Z)<|z7<|zb<|ai<|ab jh j8 Z Z<|ze (pz f hE hn) Z<|ac j4 Z<|aa Z<|z7<|zh<|y7 (γ:=Nat) [3,11,12] (fun k=>[(13,.int .i64 k)]) (fun k=>[(i9,.grow 1 4 (cB (iV (List.replicate f.blocks.length false) ((bP (au f) f.blocks.length).take k))))]) (fun k=>k≤(bP (au f) f.blocks.length).length) (fun k=>(bP (au f) f.blocks.length).length - k) 0 aV aU (q5 _) ?_
 rintro k hk
 refine ai<|ay Z Z<|z7<|zb<|zt Z (fun ck=>?_) (fun ck=>?_)
 ·have hk2:k<(bP (au f) f.blocks.length).length:=by simp at ck;omega
  obtain ⟨b,hb⟩:∃b,(bP (au f) f.blocks.length)[k]=b:=⟨_,rfl⟩
  have hr:=bm hG.toEOk (hb▸q6 hk2)
  refine zf<|zb<|zh<|ai<|za (dG k j4 j9 Z Z Z (by rw[q2 hk2,hb])) ?_
  refine aF jf Z<|aw Z<|z7<|bg<|za (iL Z)<|aa Z<|za (Gv.idxI (j:=b.toNat) jx Z9 Z Z (by omega) ⟨_,.head⟩ (by rw[dp,gK];simp) (by omega))<|ao.storeB (j:=b.toNat) Z9 Z Z .head (by rw[gK];simp;omega)<|z7<|bg<|aB Z Z<|aa Z<|z7 ?_
  exact ⟨k+1,oE,aV,⟨_,(.refl _),by rw[q3 hk2,qr,hb]⟩,hk2,by omega⟩
 ·have hkn:k=(bP (au f) f.blocks.length).length:=by simp at ck;omega
  subst hkn
  rw[q7]
  refine zy<|ai<|za (iL Z)<|za (mQ Z)<|z7<|zz (bc.knowB (t:=2) Z .head (by rw[gK];simp))<|zg<|zi (x:=.fro _ _) Z ?_
  rfl
theorem De (xs:List Int) (hl:xs.length≤1000):bV prog E 39 [.fro 1 (xs.map bh)] [] (fun x O'=>∃i:Nat,x=.own i xs.length∧O'=[(i,.grow 1 3 (cI xs))]):=by
 refine zo func39 Z (by decide) Z<|ai<|za (nc Z)<|z7<|zb<|ai<|aX Z<|ao.isNil j4 Z Z (fun hnil=>?_) ?_
 ·have hx:xs=[]:=by simpa using hnil
  subst hx
  refine z7<|yi Z Z<|ai<|za (nc Z)<|z7<|zg ?_
  repeat (first|refine ft ?_|refine d8 ?_)
  refine jR (s:=2) (k:=1) (T:=3) Z (fun i=>?_)
  refine zi (x:=.own _ _) Z ?_
  exact ⟨i,rfl,rfl⟩
 ·refine z7<|yd Z Z<|zf<|ai<|yg (k:=1) j4 Z4<|fun i5=>aX Z<|zr (k:=1) j4 Z4 Z Z Z Z Z (fun _=>.head) (by simp) (by decide) (lS (fun _=>Z) xs) (by show (_+_)*8≤_;simp<;>omega) (by simp<;>omega)<|fun i7=>za (mQ Z)<|z7<|zg<|zi (x:=.own _ _) Z ?_
  exact ⟨i7,(by simp),by rw[←rR];rfl⟩
theorem l9 (f:ae) {k:Nat} (h:k<f.blocks.length):(cL f f.blocks.length)[k]?=some (bn (au f) f.blocks.length (k:Int)):=by unfold cL;rw[qa,List.getElem?_range h];rfl
theorem pA (f:ae) (hE:bk f) (hf:small f):aT prog E 37 [.agg (bC f)] (.bool (bZ f)):=by
 have hn:=hf.2.2.1
 refine zo func37 Z (by decide) Z<|ai<|y9 (cs:=_) Z Z Z<|ad Z<|z7<|ai<|ab jh j8 Z Z<|ze (ir f hE (by omega)) Z<|za (w8 Z)<|z7<|zb<|ai<|ap j6 Z ji Z Z<|aP js Z<|ac ja Z<|aa Z<|z7<|zh<|y7 (γ:=Nat) [3,12,13] (fun k=>[(14,.int .i64 k)]) (fun k=>[]) (fun k=>k≤f.blocks.length∧(List.range k).all (xm f)=true) (fun k=>f.blocks.length - k) 0 aV aU (⟨q5 _,Z⟩) ?_
 rintro k ⟨hk,hall⟩
 refine ai<|ay Z Z<|z7<|zb<|zt Z (fun ck=>?_) (fun ck=>?_)
 ·have hk2:k<f.blocks.length:=by simp at ck;omega
  obtain ⟨b,hbk⟩:∃b,f.blocks[k]=b:=⟨_,rfl⟩
  have hget:f.blocks[k]?=some b:=by rw[q2 hk2,hbk]
  obtain ⟨hb0,hb1,hb2,hb3,hb4⟩:=hf.2.2.2.2 b (hbk▸q6 hk2)
  refine zf<|zb<|zh<|ai<|aa Z<|za (dG k ja jj Z Z Z hget)<|ab Z7 jj Z Z<|zp (cs:=[.str ⟨#[]⟩,.raw (.slice none 0 0),.raw (.slice none 0 0),.int .i64 0,.int .i64 0,.int .i64 0,.int .i64 0]) ju Z Z<|fun i5=>aw Z<|zm jj Z Z Z Z Z Z .head Z<|zx (yp (t:=5) Z .head)<|z7<|ai<|ap j5 Z jw Z Z<|aP Z8 Z<|ac jl Z<|aa Z<|z7<|zh<|y7 (γ:=Nat) [3,4,12,13,14,20,21] (fun j=>[(22,.int .i64 j)]) (fun j=>[]) (fun j=>j≤b.phis.length∧(b.phis.take j).all (Ap f k)=true) (fun j=>b.phis.length - j) 0 aV aU (⟨q5 _,Z⟩) ?_
  rintro j ⟨hj,hjall⟩
  refine ai<|ay Z Z<|z7<|zb<|zt Z (fun cj=>?_) (fun cj=>?_)
  ·have hj2:j<b.phis.length:=by simp at cj;omega
   have hpf:=(hb3 _ (q6 hj2)).2
   refine zf<|zb<|zh<|ai<|za (dG j jl jp Z Z Z (q2 hj2))<|ab Zf jp Z Z<|zp (cs:=[.int .i64 0,.raw (.slice none 0 0),.raw (.slice none 0 0)]) jz Z Z<|fun i7=>zm jp Z Z Z Z Z Z .head Z<|zx (yp (t:=7) Z .head)<|z7<|ai<|ap jc Z je Z Z<|aP jm Z<|ao.callA Z (yh (.rest _)) (De b.phis[j].from_ hpf) ?_
   rintro r28 O28 ⟨i8,rfl,rfl⟩
   refine za (mQ Z)<|z7<|ai<|za (iL Z)<|ao.callA Z (yh (.l (.rest _))) (xv b.phis[j].from_ i8 _ (by omega)) ?_
   rintro r30 O30 ⟨rfl,rfl⟩
   refine z7<|zz (bc.knowI (t:=8) Z .head (by rw[(eJ _).length_eq]))<|ai<|aX Z<|aX Z<|aa Z<|za (dG k underlying89 je Z Z Z (l9 f hk2))<|aP jm Z<|ze (oP (kw b.phis[j].from_) (bn (au f) f.blocks.length (k:Int)) (by unfold lJ;rw[(eJ _).length_eq];omega)) Z<|aH Z<|z7<|zu Z (fun cq=>?_) (fun cq=>?_)
   ·refine ai<|ad Z<|z7<|zg<|zi (x:=.bool _) Z ?_
    rw[show bZ f=false from gZ hk2 (by rw[gL hget];exact Bool.eq_false_iff.2 (dM hj2 (by simpa [Ap] using cq)))]
   ·refine zf<|bg<|aB Z Z<|aa Z<|z7 ?_
    exact ⟨j+1,gY,aV,aU,⟨hj2,bX hj2 hjall (by simpa [Ap] using cq)⟩,by omega⟩
  ·have hjn:j=b.phis.length:=by simp at cj;omega
   subst hjn
   rw[q7] at hjall
   refine zy<|bg<|aB Z Z<|aa Z<|z7 ?_
   exact ⟨k+1,oE,aV,aU,⟨hk2,gn hall (by rw[gL hget];exact hjall)⟩,by omega⟩
 ·have hkn:k=f.blocks.length:=by simp at ck;omega
  subst hkn
  refine zy<|ai<|ad Z<|z7<|zg<|zi (x:=.bool _) Z ?_
  rw[show bZ f=true from hall]
theorem eu (f:ae) (hf:small f) (hL:ah E):aT prog E 20 [.agg (bC f)] (.int .i64 (if (aS f&&bZ f)=true then 0 else 3)):=by
 refine zo func20 Z (by decide) Z<|ai<|y9 (cs:=_) Z Z Z<|aw Z<|z7<|zb<|ai<|ab jh j8 Z Z<|ze (iG f hf hL) Z<|aH Z<|aj Z<|zk (s:=6) Z (fun ct=>?_) (fun ct=>?_)
 ·refine z6 Z Z ct<|z6 Z Z ct<|z6 Z Z ct<|ak Z ct Z<|z7<|yi Z Z<|ai<|aw Z<|z7<|zg<|zi (x:=.int _ _) Z ?_
  rw[show aS f=false by simpa using ct];rfl
 ·have ht:aS f=true:=by simpa using ct
  refine z8 Z Z ct<|ab jh j8 Z Z<|z8 Z Z ct<|ze (pA f (kC ht) hf) Z<|z8 Z Z ct<|aH Z<|al Z ct Z<|z7<|zu Z (fun cj=>?_) (fun cj=>?_)
  ·refine ai<|aw Z<|z7<|zg<|zi (x:=.int _ _) Z ?_
   rw[show bZ f=false by simpa using cj];simp
  ·refine zf<|ai<|aw Z<|z7<|zg<|zi (x:=.int _ _) Z ?_
   rw[ht,show bZ f=true by simpa using cj];rfl
end
section
open Go.Proofs.Tryz
section
variable {S:Int→List Int} {at_:Int→Int} {V:List Int} {N:Int→Int}
end
section
variable {S:Int→List Int} {at_ V:List Int} {preds:Int→List Int} {n:Nat}
end
section
variable {E:Int→List Int} {n:Nat}
end
end
section
open Go.Proofs.Tryz
open Go.Proofs
variable {E:World}
set_option maxRecDepth 20000
end
section
open Go.Proofs.Tryz
open Go.Proofs
variable {E:World}
set_option maxRecDepth 20000
end
section
open Go.Proofs.Tryz
section
variable {E:World} {P:Program} {env:aK} {O O' O'':OL}
variable {d ty:Nat} {pos:String} {af:Array Edge} {x y z:Operand} {t u e T:TypeId}
end
end
section
open Go.Proofs.Tryz
open Go.Proofs
variable {E:World}
set_option maxRecDepth 20000
section
variable {S:Int→List Int} {n:Nat} (hG:nJ S n)
include hG
end
end
section
open Go.Proofs.Tryz
open Go.Proofs
variable {E:World}
set_option maxRecDepth 20000
section
variable {S:Int→List Int} {n:Nat} (hG:nJ S n)
include hG
end
end
section
open Go.Proofs.Tryz
open Go.Proofs Go.Lib Go.Shelf Go.RowKit
variable {E:World}
set_option maxRecDepth 20000
end
section
open Go.Proofs.Tryz
open Go.Proofs Go.Lib Go.Shelf Go.RowKit
variable {E:World}
set_option maxRecDepth 20000
end
section
open Go.Proofs.Tryz
open Go.Proofs Go.Lib Go.Shelf Go.RowKit
variable {E:World}
set_option maxRecDepth 20000
end
section
open Go.Proofs.Tryz
open Go.Proofs Go.Lib Go.Shelf Go.RowKit
variable {E:World}
set_option maxRecDepth 20000
end
section
open Go.Proofs.Tryz
open Go.Proofs Go.Lib Go.Shelf Go.RowKit
variable {E:World}
set_option maxRecDepth 20000
theorem dX (t:b9) (b:Int):b∈aO t↔(t.kind=0∧t.to0=b)∨(t.kind=1∧(t.to0=b∨t.to1=b)):=by
 unfold aO
 by_cases h0:t.kind=0
 ·rw[if_pos h0];simp[h0];exact eq_comm
 ·rw[if_neg h0]
  by_cases h1:t.kind=1
  ·rw[if_pos h1]
   by_cases h2:t.to0=t.to1
   ·rw[if_pos h2];simp[h1,h2];exact eq_comm
   ·rw[if_neg h2];simp[h1]
    constructor
    ·rintro (h|h);exact .inl h.symm;exact .inr h.symm
    ·rintro (h|h);exact .inl h.symm;exact .inr h.symm
  ·rw[if_neg h1];simp[h0,h1]
theorem fS (f:ae) (hn:f.blocks.length≤1000) (a b:Int) (h0:0≤a) (ha:a<f.blocks.length):aT prog E 44 [.agg (bC f),.int .i64 a,.int .i64 b] (.bool (decide (b∈au f a))):=by
 obtain ⟨c,hc⟩:∃c,f.blocks[a.toNat]'(by omega)=c:=⟨_,rfl⟩
 have hget:f.blocks[a.toNat]?=some c:=by rw[q2 (by omega),hc]
 have hE:au f a=aO c.term:=by rw[hZ h0 (by omega),hc]
 rw[hE]
 refine zo func44 Z (by decide) Z<|ai<|y9 (cs:=_) Z Z Z<|ad Z<|z7<|ai<|ap j6 Z ji Z Z<|aP js Z<|aa Z<|za (dG a.toNat ja jj Z Z (by omega) hget)<|ap j5 Z jn Z Z<|ab Zo jn Z Z<|zp (cs:=[.int .i64 0,.int .i64 0,.int .i64 0,.int .i64 0]) zeroValue58 Z Z<|fun i7=>zm jn Z Z Z Z Z Z .head Z<|zx (yp (t:=7) Z .head)<|z7<|ai<|ap j7 Z Z2 Z Z<|aF Z6 Z<|aq Z Z<|aj Z<|zk (s:=17) Z (fun c1=>?_) (fun c1=>?_)
 ·refine z8 Z Z c1<|ap j7 Z jr Z Z<|z8 Z Z c1<|za (yl (j:=0) jg j9 Z Z Z (by decide) Z)<|z8 Z Z c1<|aF jf Z<|z8 Z Z c1<|aa Z<|z8 Z Z c1<|aq Z Z<|ak Z c1 Z<|aj Z<|zk (s:=24) Z (fun c2=>?_) (fun c2=>?_)
  ·refine z6 Z Z c2<|z6 Z Z c2<|z6 Z Z c2<|z6 Z Z c2<|zc Z Z<|zc Z Z<|zc Z Z<|zc Z Z<|zc Z Z<|zc Z Z<|zc Z Z<|zc Z Z<|zc Z Z<|zc Z Z<|zc Z Z<|zc Z Z<|z6 Z Z c2<|ak Z c2 Z<|ad Z<|z7<|zg<|zi (x:=.bool _) Z<|congrArg AV.bool ?_;rw[Bool.eq_iff_iff];simp only[qh,dX];simp_all
  ·refine z8 Z Z c2<|ap j7 Z Z2 Z Z<|z8 Z Z c2<|aF Z6 Z<|z8 Z Z c2<|aq Z Z<|z8 Z Z c2<|aj Z<|zk (s:=28) Z (fun c3=>?_) (fun c3=>?_)
   ·refine z8 Z Z c3<|ap j7 Z jr Z Z<|z8 Z Z c3<|za (yl (j:=0) jg j9 Z Z Z (by decide) Z)<|z8 Z Z c3<|aF jf Z<|z8 Z Z c3<|aa Z<|z8 Z Z c3<|aq Z Z<|z8 Z Z c3<|aj Z<|zk (s:=34) Z (fun c4=>?_) (fun c4=>?_)
    ·refine z6 Z Z c4<|z6 Z Z c4<|z6 Z Z c4<|z6 Z Z c4<|z6 Z Z c4<|z8 Z Z c3<|ak Z c4 Z<|z8 Z Z c2<|ak Z c3 Z<|al Z c2 Z<|ad Z<|z7<|zg<|zi (x:=.bool _) Z<|congrArg AV.bool ?_;rw[Bool.eq_iff_iff];simp only[qh,dX];simp_all
    ·refine z8 Z Z c4<|ap j7 Z jr Z Z<|z8 Z Z c4<|za (yl (j:=1) jg j9 Z Z Z (by decide) Z)<|z8 Z Z c4<|aF jf Z<|z8 Z Z c4<|aa Z<|z8 Z Z c4<|aq Z Z<|z8 Z Z c3<|al Z c4 Z<|z8 Z Z c2<|ak Z c3 Z<|al Z c2 Z<|ad Z<|z7<|zg<|zi (x:=.bool _) Z<|congrArg AV.bool ?_;rw[Bool.eq_iff_iff];simp only[qh,dX];simp_all
   ·refine z6 Z Z c3<|z6 Z Z c3<|z6 Z Z c3<|z6 Z Z c3<|z6 Z Z c3<|z6 Z Z c3<|zc Z Z<|zc Z Z<|zc Z Z<|zc Z Z<|zc Z Z<|z6 Z Z c3<|z8 Z Z c2<|al Z c3 Z<|al Z c2 Z<|ad Z<|z7<|zg<|zi (x:=.bool _) Z<|congrArg AV.bool ?_;rw[Bool.eq_iff_iff];simp only[qh,dX];simp_all
 ·refine z6 Z Z c1<|z6 Z Z c1<|z6 Z Z c1<|z6 Z Z c1<|z6 Z Z c1<|al Z c1 Z<|aj Z<|z8 Z Z Z<|ap j7 Z Z2 Z Z<|z8 Z Z Z<|aF Z6 Z<|z8 Z Z Z<|aq Z Z<|z8 Z Z Z<|aj Z<|zk (s:=28) Z (fun c5=>?_) (fun c5=>?_)
  ·refine z8 Z Z c5<|ap j7 Z jr Z Z<|z8 Z Z c5<|za (yl (j:=0) jg j9 Z Z Z (by decide) Z)<|z8 Z Z c5<|aF jf Z<|z8 Z Z c5<|aa Z<|z8 Z Z c5<|aq Z Z<|z8 Z Z c5<|aj Z<|zk (s:=34) Z (fun c6=>?_) (fun c6=>?_)
   ·refine z6 Z Z c6<|z6 Z Z c6<|z6 Z Z c6<|z6 Z Z c6<|z6 Z Z c6<|z8 Z Z c5<|ak Z c6 Z<|z8 Z Z Z<|ak Z c5 Z<|al Z Z Z<|ad Z<|z7<|zg<|zi (x:=.bool _) Z<|congrArg AV.bool ?_;rw[Bool.eq_iff_iff];simp only[qh,dX];simp_all
   ·refine z8 Z Z c6<|ap j7 Z jr Z Z<|z8 Z Z c6<|za (yl (j:=1) jg j9 Z Z Z (by decide) Z)<|z8 Z Z c6<|aF jf Z<|z8 Z Z c6<|aa Z<|z8 Z Z c6<|aq Z Z<|z8 Z Z c5<|al Z c6 Z<|z8 Z Z Z<|ak Z c5 Z<|al Z Z Z<|ad Z<|z7<|zg<|zi (x:=.bool _) Z<|congrArg AV.bool ?_;rw[Bool.eq_iff_iff];simp only[qh,dX];simp_all
  ·refine z6 Z Z c5<|z6 Z Z c5<|z6 Z Z c5<|z6 Z Z c5<|z6 Z Z c5<|z6 Z Z c5<|zc Z Z<|zc Z Z<|zc Z Z<|zc Z Z<|zc Z Z<|z6 Z Z c5<|z8 Z Z Z<|al Z c5 Z<|al Z Z Z<|ad Z<|z7<|zg<|zi (x:=.bool _) Z<|congrArg AV.bool ?_;rw[Bool.eq_iff_iff];simp only[qh,dX];simp_all
theorem Bd {a shut x:Int} {out:List Bool} {y:Nat} (hx:qN a out shut x) (h0:0≤x) (hy:y<out.length):qN a (out.set y true) shut x:=by
 refine ⟨hx.1,?_⟩
 rcases hx.2 with h|h
 ·exact .inl h
 ·right
  unfold gb at h ⊢
  rw[List.getElem?_set]
  by_cases e:y=x.toNat
  ·rw[if_pos e,if_pos (by omega)];rfl
  ·rw[if_neg e];exact h
set_option maxHeartbeats 4000000 in
theorem xT (f:ae) (hE:bk f) (hn:f.blocks.length≤1000) (a shut:Int) (h0:0≤a) (ha:a<f.blocks.length):bV prog E 69 [.agg (bC f),.int .i64 a,.int .i64 shut] []
  fun x O=>∃i:Nat,x=.own i f.blocks.length∧O=[(i,.grow 1 4 (cB (gC (au f) f.blocks.length a shut)))]:=by
 have hG:=hE.grph
 obtain ⟨n,hnn⟩:∃n,f.blocks.length=n:=⟨_,rfl⟩
 rw[hnn] at hG hn ha ⊢
 refine zo func69 Z (by decide) Z<|ai<|y9 (cs:=_) Z Z Z<|za (nc Z)<|z7<|ai<|ap j6 Z ji Z Z<|aP js Z<|ac ja Z<|aw Z<|z7<|ai<|aa Z<|ao.makeB (m:=n) jx type4 Z Z Z Z Z (by omega) (by omega) (by show (1:Int)*_≤_;omega) (by omega)<|fun i16=>za (mQ Z)<|z7<|zb<|ai<|ad Z<|z7<|zh<|y7 (γ:=List Bool × Bool) [1,2,3,7,8] (fun g=>[(9,.bool g.2)]) (fun g=>[(i16,.grow 1 4 (cB g.1))]) (fun g=>FrS (au f) a shut n g.1∧(g.2=false→we (au f) a shut g.1 n)) (fun g=>2*iC g.1+(if g.2=true then 1 else 0)) (List.replicate n false,true) aV aU (⟨FrS.begin _ _ _ _,fun h=>by cases h⟩) ?_
 rintro ⟨o0,again⟩ ⟨hS0,hfin⟩
 try dsimp only at *
 refine zb<|ai<|aj Z<|z7<|zu Z (fun ca=>?_) (fun ca=>?_)
 ·have ca:again=true:=by simpa using ca
  subst ca
  refine zf<|zh<|ai<|ad Z<|z7<|ai<|aa Z<|aa Z<|z7<|zh<|y7 (γ:=Nat × List Bool × Bool) [1,2,3,7,8,18] (fun g=>[(19,.int .i64 g.1),(9,.bool g.2.2)]) (fun g=>[(i16,.grow 1 4 (cB g.2.1))]) (fun g=>g.1≤n∧D5 (au f) a shut n o0 g.2.1 g.2.2∧(g.2.2=false→we (au f) a shut g.2.1 g.1)) (fun g=>n - g.1) (0,o0,false) fF aU (⟨q5 _,⟨hS0,Nat.le_refl _,fun h=>(by cases h),fun _=>Z⟩,fun _ x hx=>by omega⟩) ?_
  rintro ⟨x,out,ag⟩ ⟨hx,hR,hcl⟩
  try dsimp only at *
  have hol:=hR.len
  refine ai<|ay Z Z<|z7<|zb<|zt Z (fun cx=>?_) (fun cx=>?_)
  ·have hx2:x<n:=by omega
   have hgx:out[x]?=some (gb out (x:Int)):=fO (by omega)
   refine zf<|zb<|zh<|ai<|aa Z<|aw Z<|z7<|zb<|zb<|yn (γ:=Bool) [1,2,3,7,8,9,10,18,19] (fun u=>[(36,.bool u)]) (fun u=>[(i16,.grow 1 4 (cB out))]) (fun u=>u=!decide (qN a out shut x)) ?_ (fun _ _ h=>h) ?_
   ·refine bg<|aa Z<|aa Z<|aq Z Z<|aj Z<|zk (s:=25) Z (fun c7=>?_) (fun c7=>?_)
    ·refine z6 Z Z c7<|z6 Z Z c7<|z6 Z Z c7<|z6 Z Z c7<|zc Z Z<|zc Z Z<|zc Z Z<|zc Z Z<|zc Z Z<|z6 Z Z c7<|ak Z c7 Z<|z7 ?_
     exact ⟨_,ne,aV,aU,by simp_all[qN]⟩
    ·refine z8 Z Z c7<|aa Z<|z8 Z Z c7<|aa Z<|z8 Z Z c7<|aG Z Z<|z8 Z Z c7<|aj Z<|zk (s:=29) Z (fun c8=>?_) (fun c8=>?_)
     ·refine z8 Z Z c8<|za (iL Z)<|z8 Z Z c8<|aa Z<|z8 Z Z c8<|za (Gv.idxI (j:=x) jx Z9 Z Z Z ⟨_,.head⟩ (by first|rfl|(simp[cC,dp];done)|(simp[cC,dp];omega)) hx2)<|z8 Z Z c8<|za (Gv.loadB (j:=x) isAgg4 Z ⟨_,.head⟩ hgx)<|z8 Z Z c8<|aH Z<|z8 Z Z c7<|ak Z c8 Z<|al Z c7 Z<|z7 ?_
      exact ⟨_,ne,aV,aU,by simp_all[qN]⟩
     ·refine z6 Z Z c8<|z6 Z Z c8<|z6 Z Z c8<|z6 Z Z c8<|z6 Z Z c8<|z8 Z Z c7<|al Z c8 Z<|al Z c7 Z<|z7 ?_
      exact ⟨_,ne,aV,aU,by simp_all[qN]⟩
   ·rintro u hu
    subst hu
    refine zu Z (fun co=>?_) (fun co=>?_)
    ·have hno:¬qN a out shut x:=by simpa using co
     refine zy<|bg<|aB Z Z<|aa Z<|z7 ?_
     exact ⟨(x+1,out,ag),Ax,fF,aU,⟨hx2,hR,fun h z hz hok=>by rcases Nat.lt_succ_iff_lt_or_eq.1 hz with h1|h1;exact hcl h z h1 hok;exact absurd (h1▸hok) hno⟩,by dsimp only;omega⟩
    ·have hok:qN a out shut x:=by simpa using co
     refine zf<|ai<|aa Z<|aa Z<|z7<|zh<|y7 (γ:=Nat × List Bool × Bool) [1,2,3,7,8,10,18,19,37] (fun g=>[(38,.int .i64 g.1),(9,.bool g.2.2)]) (fun g=>[(i16,.grow 1 4 (cB g.2.1))]) (fun g=>g.1≤n∧D5 (au f) a shut n o0 g.2.1 g.2.2∧qN a g.2.1 shut x∧(g.2.2=false→we (au f) a shut g.2.1 x∧D4 (au f) a shut g.2.1 x g.1)) (fun g=>n - g.1) (0,out,ag) fF aU (⟨q5 _,hR,hok,fun h=>⟨hcl h,fun _ y hy=>by omega⟩⟩) ?_
     rintro ⟨y,out,ag⟩ ⟨hy,hR,hok,hcl⟩
     try dsimp only at *
     have hol:=hR.len
     refine ai<|ay Z Z<|z7<|zb<|zt Z (fun cy=>?_) (fun cy=>?_)
     ·have hy2:y<n:=by omega
      have hgy:out[y]?=some (gb out (y:Int)):=fO (by omega)
      have hstep:(ag=false→(y:Int)∈au f x→(y:Int)≠shut→gb out y=true)→(ag=false→we (au f) a shut out x∧D4 (au f) a shut out x (y+1)):=fun h1 h2=>⟨(hcl h2).1,fun ho z hz he hs=>by
       rcases Nat.lt_succ_iff_lt_or_eq.1 hz with h3|h3
       ·exact (hcl h2).2 ho z h3 he hs
       ·subst h3;exact h1 h2 he hs⟩
      refine zf<|zb<|zh<|ai<|aa Z<|aw Z<|z7<|ai<|aa Z<|aa Z<|aG Z Z<|aj Z<|zk (s:=44) Z (fun c1=>?_) (fun c1=>?_)
      ·have d1:(y:Int)≠shut:=by simpa using c1
       refine z8 Z Z c1<|za (iL Z)<|z8 Z Z c1<|aa Z<|z8 Z Z c1<|za (Gv.idxI (j:=y) jx Z9 Z Z Z ⟨_,.head⟩ (by first|rfl|(simp[cC,dp];done)|(simp[cC,dp];omega)) hy2)<|z8 Z Z c1<|za (Gv.loadB (j:=y) isAgg4 Z ⟨_,.head⟩ hgy)<|z8 Z Z c1<|aH Z<|ak Z c1 Z<|aj Z<|zk (s:=51) Z (fun c2=>?_) (fun c2=>?_)
       ·have d2:gb out (y:Int)=false:=by simpa using c2
        refine z8 Z Z c2<|ab jh j8 Z Z<|z8 Z Z c2<|aa Z<|z8 Z Z c2<|aa Z<|z8 Z Z c2<|ze (fS f (by omega) (x:Int) (y:Int) (by omega) (by omega)) Z<|ak Z c2 Z<|z7<|zu Z (fun c3=>?_) (fun c3=>?_)
        ·have d3:(y:Int)∈au f x:=by simpa using c3
         refine ai<|za (iL Z)<|aa Z<|za (Gv.idxI (j:=y) jx Z9 Z Z Z ⟨_,.head⟩ (by first|rfl|(simp[cC,dp];done)|(simp[cC,dp];omega)) hy2)<|ao.storeB (j:=y) Z9 Z Z .head (by first|omega|(simp;omega))<|z7<|bg<|ad Z<|z7<|bg<|aB Z Z<|aa Z<|z7 ?_
         exact ⟨(y+1,out.set y true,true),ne,fF,aU,⟨hy2,hR.hit hok d3 d1 hy2 d2,Bd hok (by omega) (by omega),fun h=>by cases h⟩,by dsimp only;omega⟩
        ·have d3:¬(y:Int)∈au f x:=by simpa using c3
         refine zf<|bg<|aB Z Z<|aa Z<|z7 ?_
         exact ⟨(y+1,out,ag),ne,fF,aU,⟨hy2,hR,hok,hstep fun _ h _=>absurd h d3⟩,by dsimp only;omega⟩
       ·have d2:gb out (y:Int)=true:=by simpa using c2
        refine z6 Z Z c2<|z6 Z Z c2<|z6 Z Z c2<|z6 Z Z c2<|al Z c2 Z<|z7<|yd Z Z<|zf<|bg<|aB Z Z<|aa Z<|z7 ?_
        exact ⟨(y+1,out,ag),ne,fF,aU,⟨hy2,hR,hok,hstep fun _ _ _=>d2⟩,by dsimp only;omega⟩
      ·have d1:(y:Int)=shut:=by simpa using c1
       refine z6 Z Z c1<|z6 Z Z c1<|z6 Z Z c1<|z6 Z Z c1<|z6 Z Z c1<|al Z c1 Z<|aj Z<|z6 Z Z Z<|z6 Z Z Z<|z6 Z Z Z<|z6 Z Z Z<|al Z Z Z<|z7<|yd Z Z<|zf<|bg<|aB Z Z<|aa Z<|z7 ?_
       exact ⟨(y+1,out,ag),ne,fF,aU,⟨hy2,hR,hok,hstep fun _ _ h=>absurd d1 h⟩,by dsimp only;omega⟩
     ·have hyn:y=n:=by omega
      refine zy<|bg<|aB Z Z<|aa Z<|z7 ?_
      exact ⟨(x+1,out,ag),Ax,fF,aU,⟨hx2,hR,fun h z hz ho=>by rcases Nat.lt_succ_iff_lt_or_eq.1 hz with h1|h1;exact (hcl h).1 z h1 ho;subst h1;exact fun y2 he hs=>(by by_cases hlt:y2<n;exact (hcl h).2 ho y2 (by omega) he hs;exact absurd (hG.rng z (by omega) (by omega) _ he).2 (by omega))⟩,by dsimp only;omega⟩
  ·have hxn:x=n:=by omega
   subst hxn
   refine zy ?_
   exact ⟨(out,ag),Ao,aV,aU,⟨hR.toFrS,hcl⟩,by dsimp only;have h1:=hR.less;have h2:=hR.more;cases ag;simp;omega;have:=h2 rfl;simp;omega⟩
 ·have ca:again=false:=by simpa using ca
  rw[hS0.eq hG ⟨h0,ha⟩ (hfin ca)]
  refine zy<|ai<|za (iL Z)<|za (mQ Z)<|z7<|zg<|zi (x:=.own _ _) Z ?_
  exact ⟨i16,rfl,rfl⟩
theorem nZ (f:ae) (hE:bk f) (hn:f.blocks.length≤1000) (shut:Int):aT prog E 45 [.agg (bC f),.int .i64 shut] (.fro 1 ((fq (au f) f.blocks.length shut).map Ea)):=by
 have hpos:=hE.grph.npos
 refine zo func45 Z (by decide) Z<|ai<|y9 (cs:=_) Z Z Z<|za (nc Z)<|z7<|ai<|ab jh j8 Z Z<|aa Z<|ao.callA Z (yh (.rest _)) (xT f hE hn 0 shut (Int.le_refl _) (by omega)) ?_
 rintro r8 O8 ⟨i8,rfl,rfl⟩
 refine za (mQ Z)<|z7<|ai<|za (iL Z)<|aa Z<|aG Z Z<|za (Gv.idxI (j:=0) jx Z9 Z Z Z ⟨_,.head⟩ (by rw[dp,gQ]) hpos)<|ao.storeB (j:=0) Z9 Z Z .head (by rw[gQ];exact hpos)<|z7<|ai<|za (iL Z)<|za (mQ Z)<|z7 ?_
 rw[show (!decide (shut=0))=decide (shut≠0) by simp,wh]
 refine zz (bc.knowB (t:=4) Z .head (iD _ _ _))<|zg<|zi (x:=.fro _ _) Z ?_
 rfl
end
section
open Go.Proofs.Tryz
open Go.Proofs Go.Lib Go.Shelf Go.RowKit
variable {E:World}
set_option maxRecDepth 20000
end
section
open Go.Proofs.Tryz
open Go.Proofs Go.Lib Go.Shelf Go.RowKit
variable {E:World}
set_option maxRecDepth 20000
theorem sq {f:ae} (hE:bk f) (i:Nat) (p:bM):Ap f i p=true↔rP f i p.from_:=by
 unfold Ap
 rw[qh,jT,vK hE]
theorem qX {l:List Int} (hn:l.Nodup) {i:Int} (h:i∈l):(l.filter fun c=>decide (c=i))=[i]:=by
 induction l with
 |nil=>cases h
 |cons c l ih=>
  obtain ⟨h1,h2⟩:=List.nodup_cons.1 hn
  by_cases e:c=i
  ·subst e
   have:(l.filter fun x=>decide (x=c))=[]:=List.filter_eq_nil_iff.2 fun x hx=>by
    simp only[qh];rintro rfl;exact h1 hx
   simp[this]
  ·rw[List.filter_cons_of_neg (by simpa using e)]
   rcases List.mem_cons.1 h with h3|h3
   ·exact absurd h3.symm e
   ·exact ih h2 h3
theorem qY {f:ae} (k:Nat) (i:Int):(bn (au f) (k+1) i).length=(bn (au f) k i).length+if i∈au f k then 1 else 0:=by
 rw[gp,q8,q9]
 have hn:=cf f k
 congr 1
 by_cases h:i∈au f k
 ·rw[if_pos h]
  have h1:=qX hn h
  rw[h1];rfl
 ·rw[if_neg h]
  have h1:((au f k).filter fun c=>decide (c=i))=[]:=List.filter_eq_nil_iff.2 fun c hc=>by
   simp only[qh];rintro rfl;exact h hc
  rw[h1];rfl
set_option maxHeartbeats 4000000 in
theorem ma (f:ae) (hE:bk f) (hf:small f) (hS:bw f):aT prog E 24 [.agg (bC f)] (.bool (bZ f)):=by
 have hn:=hf.2.2.1
 refine zo func24 Z (by decide) Z<|ai<|y9 (cs:=_) Z Z Z<|ad Z<|z7<|zb<|ai<|ap j6 Z ji Z Z<|aP js Z<|ac ja Z<|aa Z<|z7<|zh<|y7 (γ:=Nat) [1,13,14] (fun i=>[(15,.int .i64 i)]) (fun i=>[]) (fun i=>i≤f.blocks.length∧(List.range i).all (xm f)=true) (fun i=>f.blocks.length - i) 0 aV aU (⟨q5 _,Z⟩) ?_
 rintro i ⟨hi,hall⟩
 refine ai<|ay Z Z<|z7<|zb<|zt Z (fun ci=>?_) (fun ci=>?_)
 ·have hi2:i<f.blocks.length:=by simp at ci;omega
  obtain ⟨b,hbi⟩:∃b,f.blocks[i]=b:=⟨_,rfl⟩
  have hget:f.blocks[i]?=some b:=by rw[q2 hi2,hbi]
  have hmem:b∈f.blocks:=hbi▸q6 hi2
  obtain ⟨hb0,hb1,hb2,hb3,hb4⟩:=hf.2.2.2.2 b hmem
  have hPh:=(hS.2.2.2.2.2 b hmem).1
  refine zf<|zb<|zh<|ai<|aa Z<|za (dG i ja jj Z Z Z hget)<|ab Z7 jj Z Z<|zp (cs:=[.str ⟨#[]⟩,.raw (.slice none 0 0),.raw (.slice none 0 0),.int .i64 0,.int .i64 0,.int .i64 0,.int .i64 0]) ju Z Z<|fun i4=>aw Z<|zm jj Z Z Z Z Z Z .head Z<|zx (yp (t:=4) Z .head)<|z7<|ai<|ap j5 Z jw Z Z<|aP Z8 Z<|ac jl Z<|aa Z<|z7<|zh<|y7 (γ:=Nat) [1,3,13,14,15,21,22] (fun j=>[(23,.int .i64 j)]) (fun j=>[]) (fun j=>j≤b.phis.length∧(b.phis.take j).all (Ap f i)=true) (fun j=>b.phis.length - j) 0 aV aU (⟨q5 _,Z⟩) ?_
  rintro j ⟨hj,hjall⟩
  refine ai<|ay Z Z<|z7<|zb<|zt Z (fun cj=>?_) (fun cj=>?_)
  ·have hj2:j<b.phis.length:=by simp at cj;omega
   obtain ⟨p,hp⟩:∃p,b.phis[j]=p:=⟨_,rfl⟩
   have hpm:p∈b.phis:=hp▸q6 hj2
   have hpl:=(hb3 p hpm).2
   have hpr:∀c∈p.from_,0≤c∧c<f.blocks.length:=fun c hc=>by have:=List.all_eq_true.1 (hPh p hpm).2.2.2.2 c hc;simpa [cW] using this
   have hbad:¬rP f i p.from_→bZ f=false:=fun h=>gZ hi2 (by rw[gL hget];exact Bool.eq_false_iff.2 (dM hj2 (by rw[hp];exact Bool.eq_false_iff.2 fun h2=>h ((sq hE i p).1 h2))))
   refine zf<|zb<|zh<|ai<|za (dG j jl jp Z Z Z (by rw[q2 hj2,hp])) ?_
   refine ab Zf jp Z Z<|zp (cs:=[.int .i64 0,.raw (.slice none 0 0),.raw (.slice none 0 0)]) jz Z Z<|fun i6=>zm jp Z Z Z Z Z Z .head Z<|zx (yp (t:=6) Z .head)<|z7<|ai<|aw Z<|z7<|zb<|ai<|ap j6 Z ji Z Z<|aP js Z<|ac ja Z<|aa Z<|z7<|zh<|y7 (γ:=Nat) [1,3,6,13,14,15,21,22,23,29] (fun a=>[(30,.int .i64 a),(7,.int .i64 (bn (au f) a i).length)]) (fun a=>[]) (fun a=>a≤f.blocks.length) (fun a=>f.blocks.length - a) 0 fF aU (q5 _) ?_
   rintro a ha
   refine ai<|ay Z Z<|z7<|zb<|zt Z (fun ca=>?_) (fun ca=>?_)
   ·have ha2:a<f.blocks.length:=by simp at ca;omega
    have hone:=qY (f:=f) a i
    have hle:=im f i a
    refine zf<|zb<|zh<|ai<|aa Z<|aw Z<|z7<|ai<|ab jh j8 Z Z<|aa Z<|aa Z<|ze (fS f hn (a:Int) (i:Int) (by omega) (by omega)) Z<|z7<|zu Z (fun cl=>?_) (fun cl=>?_)
    ·have hl:(i:Int)∈au f a:=by simpa using cl
     rw[if_pos hl] at hone
     refine bg<|aa Z<|aB Z Z<|aw Z<|z7<|bg<|aB Z Z<|aa Z<|z7 ?_
     exact ⟨a+1,⟨rfl,rfl,rfl,rfl,rfl,rfl,rfl,rfl,rfl,rfl,trivial⟩,⟨rfl,(by rw[hone];rfl),trivial⟩,aU,ha2,by omega⟩
    ·have hl:¬(i:Int)∈au f a:=by simpa using cl
     rw[if_neg hl] at hone
     refine zf<|bg<|aB Z Z<|aa Z<|z7 ?_
     exact ⟨a+1,⟨rfl,rfl,rfl,rfl,rfl,rfl,rfl,rfl,rfl,rfl,trivial⟩,⟨rfl,(by rw[hone];rfl),trivial⟩,aU,ha2,by omega⟩
   ·have han:a=f.blocks.length:=by simp at ca;omega
    subst han
    refine zy<|zb<|ai<|aa Z<|ap jc Z je Z Z<|aP jm Z<|ac j4 Z<|aG Z Z<|z7<|zu Z (fun cn=>?_) (fun cn=>?_)
    ·have hne:¬(bn (au f) f.blocks.length i).length=p.from_.length:=by have h0:¬((bn (au f) f.blocks.length i).length:Int)=(p.from_.length:Int):=(by simpa using cn);omega
     refine ai<|ad Z<|z7<|zg<|zi (x:=.bool _) Z ?_
     rw[hbad fun h=>hne h.1]
    ·have hne:(bn (au f) f.blocks.length i).length=p.from_.length:=by have h0:((bn (au f) f.blocks.length i).length:Int)=(p.from_.length:Int):=(by simpa using cn);omega
     refine zf<|ai<|ap jc Z je Z Z<|aP jm Z<|ac j4 Z<|aa Z<|z7<|zh<|y7 (γ:=Nat) [1,3,6,13,14,15,21,22,23,46,47] (fun k=>[(48,.int .i64 k)]) (fun k=>[]) (fun k=>k≤p.from_.length∧∀q (h:q<p.from_.length),q<k→(i:Int)∈au f p.from_[q]∧p.from_[q] ∉ p.from_.take q) (fun k=>p.from_.length - k) 0 aV aU (⟨q5 _,fun q h h2=>by omega⟩) ?_
     rintro k ⟨hk,hok⟩
     refine ai<|ay Z Z<|z7<|zb<|zt Z (fun ck=>?_) (fun ck=>?_)
     ·have hk2:k<p.from_.length:=by simp at ck;omega
      obtain ⟨c,hc⟩:∃c,p.from_[k]=c:=⟨_,rfl⟩
      obtain ⟨hc0,hcn⟩:=hpr c (hc▸q6 hk2)
      refine zf<|zb<|zh<|ai<|aa Z<|za (dG k j4 j9 Z Z Z (by rw[q2 hk2,hc])) ?_
      refine aF jf Z<|aw Z<|aw Z<|z7<|zb<|ai<|ab jh j8 Z Z<|aa Z<|aa Z<|ze (fS f hn c (i:Int) hc0 hcn) Z<|aH Z<|z7<|zu Z (fun cl=>?_) (fun cl=>?_)
      ·have hl:¬(i:Int)∈au f c:=by simpa using cl
       refine ai<|ad Z<|z7<|zg<|zi (x:=.bool _) Z ?_
       rw[hbad fun h=>hl (hc▸(h.2 k hk2).1)]
      ·have hl:(i:Int)∈au f c:=by simpa using cl
       refine zf<|ai<|aa Z<|aa Z<|z7<|zh<|y7 (γ:=Nat) [1,3,6,10,13,14,15,21,22,23,46,47,48,58] (fun q=>[(59,.int .i64 q)]) (fun q=>[]) (fun q=>q≤k∧c ∉ p.from_.take q) (fun q=>k - q) 0 aV aU (⟨q5 _,by simp⟩) ?_
       rintro q ⟨hq,hqn⟩
       refine ai<|ay Z Z<|z7<|zb<|zt Z (fun cq=>?_) (fun cq=>?_)
       ·have hq2:q<k:=by omega
        have hq3:q<p.from_.length:=by omega
        refine zf<|zb<|zh<|ai<|aa Z<|aw Z<|z7<|ai<|ap jc Z je Z Z<|aP jm Z<|aa Z<|za (dG q j4 j9 Z Z Z (q2 hq3))<|aF jf Z<|aa Z<|aq Z Z<|z7<|zu Z (fun ce=>?_) (fun ce=>?_)
        ·have he:p.from_[q]=c:=by simpa using ce
         have hin:c∈p.from_.take k:=by rw[←he];exact List.mem_take_iff_getElem.2 ⟨q,by omega,rfl⟩
         refine ai<|ad Z<|z7<|zg<|zi (x:=.bool _) Z ?_
         rw[hbad fun h=>(h.2 k hk2).2 (by rw[hc];exact hin)]
        ·have he:¬p.from_[q]=c:=by simpa using ce
         refine zf<|bg<|aB Z Z<|aa Z<|z7 ?_
         exact ⟨q+1,⟨rfl,rfl,rfl,rfl,rfl,rfl,rfl,rfl,rfl,rfl,rfl,rfl,rfl,rfl,trivial⟩,aV,aU,⟨hq2,fun hm=>by rw[q3 hq3] at hm;rcases List.mem_append.1 hm with h1|h1;exact hqn h1;simp at h1;exact he h1.symm⟩,by omega⟩
       ·have hqn2:q=k:=by omega
        subst hqn2
        refine zy<|bg<|aB Z Z<|aa Z<|z7 ?_
        exact ⟨q+1,⟨rfl,rfl,rfl,rfl,rfl,rfl,rfl,rfl,rfl,rfl,rfl,trivial⟩,aV,aU,⟨hk2,fun r hr h2=>by rcases Nat.lt_succ_iff_lt_or_eq.1 h2 with h3|h3;exact hok r hr h3;subst h3;rw[hc];exact ⟨hl,hqn⟩⟩,by omega⟩
     ·have hkn:k=p.from_.length:=by simp at ck;omega
      subst hkn
      refine zy<|bg<|aB Z Z<|aa Z<|z7 ?_
      exact ⟨j+1,gY,aV,aU,⟨hj2,bX hj2 hjall (by rw[hp];exact (sq hE i p).2 ⟨hne,fun q hq=>hok q hq hq⟩)⟩,by omega⟩
  ·have hjn:j=b.phis.length:=by simp at cj;omega
   subst hjn
   rw[q7] at hjall
   refine zy<|bg<|aB Z Z<|aa Z<|z7 ?_
   exact ⟨i+1,oE,aV,aU,⟨hi2,gn hall (by rw[gL hget];exact hjall)⟩,by omega⟩
 ·have hin:i=f.blocks.length:=by simp at ci;omega
  subst hin
  refine zy<|ai<|ad Z<|z7<|zg<|zi (x:=.bool _) Z ?_
  rw[show bZ f=true from hall]
end
section
open Go.Proofs.Tryz
open Go.Proofs Go.Lib Go.Shelf Go.RowKit
variable {E:World}
set_option maxRecDepth 20000
end
section
open Go.Proofs.Tryz
open Go.Proofs Go.Lib Go.Shelf Go.RowKit
variable {E:World}
set_option maxRecDepth 20000
theorem dN (f:ae) (v:Int) (hv:bf f v=true):aT prog E 47 [.agg (bC f),.int .i64 v] (.int .i64 (aY f v)):=by
 obtain ⟨x,hx,hv2,hk⟩:=oR hv
 rw[hk]
 refine zo func47 Z (by decide) Z<|ai<|y9 (cs:=_) Z Z Z<|aw Z<|z7<|ai<|ap j6 Z Za Z Z<|aP Zi Z<|aa Z<|za (dG v.toNat jk Zc Z Z hv2 hx)<|ap Z3 Z sizeOf64 Z Z<|aF isAgg64 Z<|aw Z<|z7<|zg<|zi (x:=.int _ _) Z ?_
 rfl
theorem mb (c:Int):aT prog E 49 [.int .u8 c] (.int .i64 (cQ c)):=by
 refine zo func49 Z (by decide) Z<|ai<|aw Z<|z7<|zb<|ai<|aa Z<|z7<|zh<|ai<|aq Z Z<|ad Z<|z7<|zu Z (fun c1=>?_) (fun c1=>?_)
 ·refine ai<|aw Z<|z7<|zg<|zi (x:=.int _ _) Z ?_
  unfold cQ;simp_all
 ·refine ai<|aq Z Z<|ad Z<|z7<|zu Z (fun c2=>?_) (fun c2=>?_)
  ·refine ai<|aw Z<|z7<|zg<|zi (x:=.int _ _) Z ?_
   unfold cQ;simp_all
  ·refine zf<|ai<|aw Z<|z7<|zg<|zi (x:=.int _ _) Z ?_
   unfold cQ;simp_all
theorem wo:∀j:Nat,j<27→decide ((bv (j:Int)).1=⟨#[99,111,112,121]⟩)=decide (j=1):=by decide
theorem k7 {op:Int} (h:0≤op∧op≤26):((bv op).1=⟨#[99,111,112,121]⟩)↔op=1:=by
 have h1:=wo op.toNat (by omega)
 rw[Int.toNat_of_nonneg h.1] at h1
 constructor
 ·intro e
  have:decide (op.toNat=1)=true:=by rw[←h1];exact qe e
  have:=of_decide_eq_true this
  omega
 ·intro e
  have h2:op.toNat=1:=by omega
  have:decide ((bv op).1=⟨#[99,111,112,121]⟩)=true:=by rw[h1];exact qe h2
  exact of_decide_eq_true this
theorem pB {op:Int} (h:0≤op∧op≤26):em[op.toNat]?=some (bv op):=by
 unfold bv
 have hl:op.toNat<em.length:=by have:em.length=27:=rfl;omega
 rw[if_pos h.1,q2 hl];rfl
def er (f:ae) (x:bB):List Int:=if x.op=1 then[aY f x.dst] else bd x.op
theorem wq {f:ae} {x:bB} (h:o3 f x):x.args.length=(er f x).length:=by
 rw[h.len]
 unfold er
 split
 ·rename_i e;rw[e];rfl
 ·rfl
theorem mc {f:ae} {x:bB} (h:o3 f x):fw f x=(decide (x.args.map (aY f)=er f x)&&(!cK x.op||(decide (x.op=1)||decide (aY f x.dst=gl x.op)))):=by
 unfold fw er
 by_cases e:x.op=1
 ·have hl:=h.len
  rw[e,show (bd 1).length=1 from rfl] at hl
  obtain ⟨a,ha⟩:=List.length_eq_one_iff.1 hl
  rw[if_pos e,if_pos e,ha]
  simp[e]
  exact eq_comm
 ·rw[if_neg e,if_neg e];simp[e]
theorem qZ {op:Int} {m:Nat} (h:m<(bd op).length):∃c:UInt8,(bv op).2.1.data[m]?=some c∧(bd op)[m]=cQ (c.toNat:Int):=by
 have h1:m<(bv op).2.1.data.size:=by rw[jX] at h;exact h
 have e:(bd op)[m]?=((bv op).2.1.data.toList[m]?).map fun b=>cQ b.toNat:=by unfold bd;rw[qa]
 rw[q2 h,Array.getElem?_toList,Array.getElem?_eq_getElem h1] at e
 exact ⟨(bv op).2.1.data[m],by rw[Array.getElem?_eq_getElem h1],by simpa using e⟩
theorem re {op:Int} (h:¬(bv op).2.2=⟨#[]⟩):∃c:UInt8,(bv op).2.2.data[0]?=some c∧gl op=cQ (c.toNat:Int):=by
 unfold gl
 generalize (bv op).2.2=m at h ⊢
 obtain ⟨⟨l⟩⟩:=m
 cases l with
 |nil=>exact absurd rfl h
 |cons c l=>exact ⟨c,by simp,rfl⟩
end
end Go.Proofs.YtjpnhkmfhlnpcaaGreatDoor
