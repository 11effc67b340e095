/- What follows where a bool variable is, or isn't: asked. Of single programs that are little. -/
import Derived.Test.YtdilpodccjlkgaaGreatDoorHp
import Derived.Test.YtdilpodccjlkgaaGreatDoorHj
import Derived.Test.YtdilpodccjlkgaaGreatDoorHn
import Derived.Test.YtdilpodccjlkgaaGreatDoorHm
import Derived.Test.YtdilpodccjlkgaaGreatDoorHc
import Derived.Test.YtdilpodccjlkgaaGreatDoorChecked
import Derived.Test.YtdilpodccjlkgaaGreatDoorHo
set_option linter.unusedVariables false
set_option linter.unusedSimpArgs false
set_option linter.unusedSectionVars false
namespace Go.Proofs.YtdilpodccjlkgaaGreatDoor
open Go.Proofs.Tryz
section
variable {S:Int→List Int} {n:Nat} (hG:eV S n)
def dY (S:Int→List Int) (n:Nat) (i:Int):List Int:=(aU n).filter fun c=>decide (gi (bi S n) c≠-1)&&decide (gi (bi S n) c=i)
include hG
theorem pA {i c:Int} (hall:∀j:Int,0≤j→j<n→j∈aA S n) (hi:0≤i):c∈dY S n i↔(0≤c∧c<n)∧c≠0∧gi (bl S n) c=i:=by
 unfold dY
 simp only[List.mem_filter,qz,w6,cM]
 constructor
 ·rintro ⟨⟨h0,h1⟩,h2,h3⟩
  have hc:c≠0:=fun e=>by rw[e,nS hG.npos] at h2;exact h2 rfl
  exact ⟨⟨h0,h1⟩,hc,by rw[ei h0 hc] at h3;exact h3⟩
 ·rintro ⟨⟨h0,h1⟩,hc,h3⟩
  refine ⟨⟨h0,h1⟩,?_,by rw[ei h0 hc];exact h3⟩
  rw[ei h0 hc,h3];omega
theorem k8 {i c:Int} (hall:∀j:Int,0≤j→j<n→j∈aA S n) (hi:0≤i) (h:c∈dY S n i):(∀j,gF S j c↔j=c∨gF S j i)∧i∈aA S n∧c∈aA S n∧gi (bT S n) c=gi (bT S n) i+1:=by
 obtain ⟨⟨h0,h1⟩,hc,hN⟩:=(pA hG hall hi).1 h
 have hco:=hall c h0 h1
 obtain ⟨g1,g2⟩:=hG.near_mem hco hc
 rw[hN] at g1
 have hl:=hG.lev_near hco hc
 rw[hN] at hl
 refine ⟨fun j=>?_,g1,hco,hl⟩
 rw[hG.dom_iff hco,hG.dom_iff g1]
 constructor
 ·intro ha
  rcases ha.cases' with e|⟨_,_,h3⟩
  ·exact .inl e
  ·rw[hN] at h3;exact .inr h3
 ·rintro (rfl|ha)
  ·exact .refl _
  ·exact .up hc (hG.exact.has c hco) (by rw[hN];exact ha)
theorem sK {i c:Int} (hall:∀j:Int,0≤j→j<n→j∈aA S n) (hi:0≤i) (h:c∈dY S n i):¬gF S c i∧c≠i:=by
 obtain ⟨h1,h2,h3,h4⟩:=k8 hG hall hi h
 refine ⟨fun hd=>?_,fun e=>by rw[e] at h4;omega⟩
 have:=(hG.lev_anc h2 ((hG.dom_iff h2).1 hd)).2.1
 omega
theorem zZ {i c d j:Int} (hall:∀j:Int,0≤j→j<n→j∈aA S n) (hi:0≤i) (h:c∈dY S n i) (k:d∈dY S n i) (hne:c≠d) (h1:gF S c j) (h2:gF S d j):False:=by
 rcases zP hG h1 h2 with h3|h3
 ·rcases ((k8 hG hall hi h).1 d).1 h3 with e|e
  ·exact hne e.symm
  ·exact (sK hG hall hi k).1 e
 ·rcases ((k8 hG hall hi k).1 c).1 h3 with e|e
  ·exact hne e
  ·exact (sK hG hall hi h).1 e
theorem BV {i j:Int} (hall:∀j:Int,0≤j→j<n→j∈aA S n) (hi:0≤i) (hj:j∈aA S n):gF S i j↔j=i∨∃c∈dY S n i,gF S c j:=by
 constructor
 ·intro h
  have ha:=(hG.dom_iff hj).1 h
  clear h
  induction ha with
  |refl x=>exact .inl rfl
  |@up x a hx hN ht ih=>
   have hr:=b3 hG.toEOk hj
   obtain ⟨g1,_⟩:=hG.near_mem hj hx
   right
   rcases ih hi g1 with e|⟨c,hc,hd⟩
   ·exact ⟨x,(pA hG hall hi).2 ⟨hr,hx,e⟩,⟨(bP hG.toEOk x).1 hj,fun hw=>hw.end_ rfl⟩⟩
   ·exact ⟨c,hc,(hG.dom_iff hj).2 (.up hx hN ((hG.dom_iff g1).1 hd))⟩
 ·rintro (rfl|⟨c,hc,hd⟩)
  ·exact ⟨(bP hG.toEOk j).1 hj,fun hw=>hw.end_ rfl⟩
  ·obtain ⟨h1,h2,h3,_⟩:=k8 hG hall hi hc
   have hic:=(h1 i).2 (.inr ⟨(bP hG.toEOk i).1 h2,fun hw=>hw.end_ rfl⟩)
   exact (hG.dom_iff hj).2 (((hG.dom_iff hj).1 hd).trans ((hG.dom_iff h3).1 hic))
omit hG in
theorem wi (i:Int):(dY S n i).Nodup:=by
 unfold dY
 refine List.Nodup.sublist List.filter_sublist ?_
 unfold aU List.Nodup
 rw[List.pairwise_map]
 exact List.Pairwise.imp (fun h e=>h (Int.ofNat.inj e)) (List.nodup_range (n:=n))
end
end Go.Proofs.YtdilpodccjlkgaaGreatDoor
namespace Go.Proofs.YtdilpodccjlkgaaGreatDoor
open Go.Proofs.Tryz
def cq {α:Type} (p:α→Bool) (l:List α) (k:Nat):Nat:=((l.take k).filter p).length
end Go.Proofs.YtdilpodccjlkgaaGreatDoor
namespace Go.Proofs.YtdilpodccjlkgaaGreatDoor
open Go.Proofs.Tryz
def Dk (V:Int→Bool) (i k:Nat):gH→Bool:=fun m=>V m.1||(decide (m.1=(i:Int))&&decide (m.2<(k:Int)))
def Fd (f:ad) (V:Int→Bool) (i:Int):Prop:=(∀j,gF (ah f) j i→j≠i→V j=true)∧∀j,gF (ah f) i j→V j=false
section
variable {f:ad} (hG:eV (ah f) f.blocks.length) (hall:∀j:Int,0≤j→j<f.blocks.length→j∈aA (ah f) f.blocks.length)
def gT (f:ad) (V:Int→Bool) (i:Int) (l:List Int):Int→Bool:=fun j=>(V j||decide (j=i))||l.any fun c=>er (ah f) f.blocks.length c j
include hG hall
theorem DG {V:Int→Bool} {i:Int} (hi:0≤i) (hV:Fd f V i) {l:List Int} {q:Nat} (hq:q<l.length) (hk:∀c∈l,c∈dY (ah f) f.blocks.length i) (hn:l.Nodup):Fd f (gT f V i (l.take q)) l[q]:=by
 have hc:=hk _ (qo hq)
 obtain ⟨h1,h2,h3,h4⟩:=k8 hG hall hi hc
 obtain ⟨g1,g2⟩:=sK hG hall hi hc
 refine ⟨fun j hj hne=>?_,fun j hj=>?_⟩
 ·unfold gT
  rcases (h1 j).1 hj with e|hd
  ·exact absurd e hne
  ·by_cases e:j=i
   ·simp[e]
   ·rw[hV.1 j hd e];simp
 ·unfold gT
  have hi2:gF (ah f) i l[q]:=(h1 i).2 (.inr (.refl ((bP hG.toEOk i).1 h2)))
  have e1:V j=false:=hV.2 j (hi2.trans hj)
  have e2:j≠i:=fun e=>g1 (by rw[←e];exact hj)
  rw[e1]
  simp only[Bool.false_or,Bool.or_eq_false_iff,decide_eq_false_iff_not,List.any_eq_false]
  refine ⟨e2,fun c hcm hd=>?_⟩
  obtain ⟨p,hp,e⟩:=List.getElem_of_mem hcm
  rw[List.length_take] at hp
  rw[List.getElem_take] at e
  have hne:c≠l[q]:=fun e3=>by
   have:=(List.getElem_inj hn).1 (e.trans e3)
   omega
  exact zZ hG hall hi (hk c (List.mem_of_mem_take hcm)) hc hne ((hG.domB_iff c j).1 hd) hj
omit hG hall in
theorem uG {V:Int→Bool} {i:Int} {l:List Int} {q:Nat} (hq:q<l.length) (j:Int):(gT f V i (l.take q) j||er (ah f) f.blocks.length l[q] j)=gT f V i (l.take (q+1)) j:=by
 unfold gT
 rw[ql hq,List.any_append];simp[Bool.or_assoc]
theorem xv {V:Int→Bool} {i:Int} (hi:0≤i) {j:Int} (h0:0≤j) (h1:j<f.blocks.length):gT f V i (dY (ah f) f.blocks.length i) j=(V j||er (ah f) f.blocks.length i j):=by
 unfold gT
 rw[Bool.or_assoc]
 congr 1
 rw[qt,hG.domB_iff,BV hG hall hi (hall j h0 h1)]
 simp only[Bool.or_eq_true,w6,List.any_eq_true]
 refine or_congr Iff.rfl ⟨fun ⟨c,h2,h3⟩=>⟨c,h2,(hG.domB_iff c j).1 h3⟩,fun ⟨c,h2,h3⟩=>⟨c,h2,(hG.domB_iff c j).2 h3⟩⟩
end
end Go.Proofs.YtdilpodccjlkgaaGreatDoor
namespace Go.Proofs.YtdilpodccjlkgaaGreatDoor
open Go.Proofs.Tryz
section
variable {E:Int→List Int} {n:Nat} (hE:eV E n)
include hE
theorem lQ:∀(k m:Nat) (b:Int),b∈aA E n→gi (bT E n) b<k→gi (bT E n) b<m→cN (bl E n) k b=cN (bl E n) m b
 |0,_,b,hb,hk,_=>by have:=hE.lev_nn hb;omega
 |_,0,b,hb,_,hk=>by have:=hE.lev_nn hb;omega
 |k+1,m+1,b,hb,hk,hm=>by
  unfold cN
  by_cases h0:b=0
  ·rw[if_pos h0,if_pos h0]
  ·rw[if_neg h0,if_neg h0]
   obtain ⟨g1,_⟩:=hE.near_mem hb h0
   have hl:=hE.lev_near hb h0
   rw[lQ k m _ g1 (by omega) (by omega)]
end
section
variable {f:ad} (hR:bE f)
include hR
theorem DH {i c:Int} (hc:0≤c∧c<f.blocks.length) (h0:c≠0) (hn:gi (bl (ah f) f.blocks.length) c=i):qE f (upT f c).tail=nI f (gX f i) i:=by
 have hG:=hR.hE.grph
 obtain ⟨cn,rfl⟩:∃cn:Nat,c=(cn:Int):=⟨c.toNat,by omega⟩
 have hm:=(bP hG.toEOk (cn:Int)).2 (hR.hs.2.1 cn (by omega))
 have hlv:=hR.lev (i:=cn) (by omega)
 have hnl:=hG.lev_near hm h0
 obtain ⟨g1,_⟩:=hG.near_mem hm h0
 rw[hn] at hnl g1
 have hi0:=hG.lev_nn g1
 unfold upT
 obtain ⟨m,hm2⟩:∃m,f.blocks.length=m+1:=⟨f.blocks.length - 1,by omega⟩
 have e1:cN (bl (ah f) f.blocks.length) f.blocks.length (cn:Int)=(cn:Int)::cN (bl (ah f) f.blocks.length) m i:=by
  conv=>lhs;rw[show cN (bl (ah f) f.blocks.length) f.blocks.length (cn:Int)=cN (bl (ah f) f.blocks.length) (m+1) (cn:Int) from by rw[←hm2]]
  show (cn:Int)::(if (cn:Int)=0 then[] else cN (bl (ah f) f.blocks.length) m (gi (bl (ah f) f.blocks.length) (cn:Int)))=_
  rw[if_neg h0,hn]
 rw[e1,List.tail_cons,lQ hG m f.blocks.length i g1 (by omega) (by omega)]
 unfold gX upT
 have e2:cN (bl (ah f) f.blocks.length) f.blocks.length i=i::(cN (bl (ah f) f.blocks.length) f.blocks.length i).tail:=by
  conv=>lhs;rw[show cN (bl (ah f) f.blocks.length) f.blocks.length i=cN (bl (ah f) f.blocks.length) (m+1) i from by rw[←hm2]]
  conv=>rhs;rw[show cN (bl (ah f) f.blocks.length) f.blocks.length i=cN (bl (ah f) f.blocks.length) (m+1) i from by rw[←hm2]]
  rfl
 rw[e2];rfl
theorem BW:qE f (upT f 0).tail=cT f:=by
 have:=hR.run.pos
 unfold upT
 obtain ⟨m,hm2⟩:∃m,f.blocks.length=m+1:=⟨f.blocks.length - 1,by omega⟩
 rw[show cN (bl (ah f) f.blocks.length) f.blocks.length 0=cN (bl (ah f) f.blocks.length) (m+1) 0 from by rw[←hm2]]
 unfold cN
 rw[if_pos rfl];rfl
end
def iK (f:ad) (i:Int):Int:=if (gW f i).term.kind=1 then fa f (nI f (gX f i) i) 100000 (gW f i).term.var else 0
def fx (f:ad) (V:Int→Bool):List Int:=(aU f.blocks.length).map fun j=>if V j=true then iK f j else 0
theorem eY (f:ad) (V:Int→Bool):(fx f V).length=f.blocks.length:=by unfold fx;rw[qr,bA]
theorem ms {f:ad} {V:Int→Bool} {j:Nat} (h:j<f.blocks.length):(fx f V)[j]?=some (if V (j:Int)=true then iK f (j:Int) else 0):=by
 unfold fx;rw[qs,e9 h];rfl
theorem BX {f:ad} {V W:Int→Bool} {i:Nat} (hi:i<f.blocks.length) (h1:W (i:Int)=true) (h2:∀j:Int,j≠i→W j=V j):(fx f V).set i (iK f (i:Int))=fx f W:=by
 refine List.ext_getElem? fun j=>?_
 by_cases e:i=j
 ·subst e
  rw[List.getElem?_set_self (by rw[eY];exact hi),ms hi,if_pos h1]
 ·rw[List.getElem?_set_ne e]
  by_cases hj:j<f.blocks.length
  ·rw[ms hj,ms hj,h2 _ (by omega)]
  ·rw[List.getElem?_eq_none (by rw[eY];omega),List.getElem?_eq_none (by rw[eY];omega)]
theorem wj {f:ad} {V W:Int→Bool} (h:∀j:Int,0≤j→j<f.blocks.length→V j=W j):fx f V=fx f W:=by
 unfold fx
 exact List.map_congr_left fun j hj=>by rw[h j (cM.1 hj).1 (cM.1 hj).2]
def kD (f:ad) (m:gH):Bool:=decide (0≤m.1∧0≤m.2)&&match (gW f m.1).insts[m.2.toNat]? with|some x=>kC x&&kB f (FA f m.1 m.2.toNat) x|none=>false
def gh (f:ad) (D:gH→Bool) (T:List (gH × Int)):Prop:=∀m:gH,be T m=if (D m&&kD f m)=true then some 1 else none
theorem gh.congr {f:ad} {D D':gH→Bool} {T:List (gH × Int)} (h:gh f D T) (e:∀m,kD f m=true→D m=D' m):gh f D' T:=fun m=>by
 rw[h m]
 cases hp:kD f m with
 |false=>simp
 |true=>rw[e m hp]
theorem gh.emp (f:ad):gh f (fun _=>false) []:=fun m=>by rw[pt.2 (by simp)];rfl
theorem uH {f:ad} {i k:Nat} {b:aY} {x:aF} (hb:f.blocks[i]?=some b) (hx:b.insts[k]?=some x):kD f ((i:Int),(k:Int))=(kC x&&kB f (FA f (i:Int) k) x):=by
 unfold kD
 dsimp only
 rw[qx ⟨by omega,by omega⟩,Bool.true_and,Int.toNat_natCast,fw hb,hx]
theorem xw {V:Int→Bool} {i k:Nat} {m:gH} (hne:¬m=((i:Int),(k:Int))):Dk V i (k+1) m=Dk V i k m:=by
 unfold Dk
 congr 1
 by_cases e1:m.1=(i:Int)
 ·simp only[e1,decide_true,Bool.true_and]
  rw[decide_eq_decide]
  have:m.2≠(k:Int):=fun e=>hne (Prod.ext e1 e)
  push_cast;omega
 ·simp[e1]
theorem gh.skip {f:ad} {V:Int→Bool} {i k:Nat} {T:List (gH × Int)} (h:gh f (Dk V i k) T) (hp:kD f ((i:Int),(k:Int))=false):gh f (Dk V i (k+1)) T:=h.congr fun m hm=>(xw fun e=>by rw[e,hp] at hm;cases hm).symm
theorem gh.put {f:ad} {V:Int→Bool} {i k:Nat} {T:List (gH × Int)} (h:gh f (Dk V i k) T) (hV:V (i:Int)=false) (hp:kD f ((i:Int),(k:Int))=true):gh f (Dk V i (k+1)) (bW T ((i:Int),(k:Int)) 1):=fun m=>by
 have hn:be T ((i:Int),(k:Int))=none:=by
  rw[h,if_neg]
  unfold Dk
  simp[hV]
 rw[pu hn]
 split
 ·rename_i e
  subst e
  rw[hp,if_pos]
  unfold Dk;simp;right;omega
 ·rename_i e
  rw[h m,xw e]
theorem gh.last {f:ad} {V:Int→Bool} {i:Nat} {b:aY} (hb:f.blocks[i]?=some b) {T:List (gH × Int)} (h:gh f (Dk V i b.insts.length) T):gh f (fun m=>V m.1||decide (m.1=(i:Int))) T:=h.congr fun m hm=>by
 unfold Dk
 by_cases e:m.1=(i:Int)
 ·unfold kD at hm
  rw[qz] at hm
  have h0:=w4 hm.1
  have h1:=hm.2
  rw[e,fw hb] at h1
  have:m.2<(b.insts.length:Int):=by
   refine Classical.byContradiction fun hn=>?_
   rw[List.getElem?_eq_none (by omega)] at h1
   cases h1
  simp[e,this]
 ·simp[e]
end Go.Proofs.YtdilpodccjlkgaaGreatDoor
namespace Go.Proofs.YtdilpodccjlkgaaGreatDoor
open Go.Proofs.Tryz
section
variable {f:ad} (hR:bE f)
def domF (f:ad) (a b:Int):Bool:=er (ah f) f.blocks.length a b
def isNear (f:ad) (a b:Int):Bool:=(!decide (a=b)&&domF f a b)&&(aU f.blocks.length).all fun x=>!(!decide (x=b)&&domF f x b)||domF f x a
def nearD (f:ad) (b:Int):Int:=((aU f.blocks.length).find? fun a=>isNear f a b).getD (-1)
include hR
theorem bE.domF (a b:Int):domF f a b=true↔gF (ah f) a b:=hR.hE.grph.domB_iff a b
theorem bE.memO {b:Int} (h:0≤b∧b<f.blocks.length):b∈aA (ah f) f.blocks.length:=by
 obtain ⟨j,rfl⟩:∃j:Nat,b=(j:Int):=⟨b.toNat,by omega⟩
 exact (bP hR.hE.grph.toEOk _).2 (hR.hs.2.1 j (by omega))
theorem bE.near_dom {b:Int} (hb:0≤b∧b<f.blocks.length) (h0:b≠0) {a:Int}:gF (ah f) a b∧a≠b↔gF (ah f) a (gi (bl (ah f) f.blocks.length) b):=by
 have hG:=hR.hE.grph
 have hm:=hR.memO hb
 obtain ⟨g1,_⟩:=hG.near_mem hm h0
 have hl:=hG.lev_near hm h0
 constructor
 ·rintro ⟨h,hne⟩
  rcases ((hG.dom_iff hm).1 h).cases' with e|⟨_,_,h3⟩
  ·exact absurd e hne
  ·exact (hG.dom_iff g1).2 h3
 ·intro h
  have ha:=(hG.dom_iff g1).1 h
  refine ⟨(hG.dom_iff hm).2 (.up h0 (hG.exact.has b hm) ha),fun e=>?_⟩
  have:=hG.lev_anc g1 ha
  rw[e] at this
  omega
theorem bE.isNear {b:Int} (hb:0≤b∧b<f.blocks.length) {a:Int}:isNear f a b=true↔b≠0∧a=gi (bl (ah f) f.blocks.length) b:=by
 have hG:=hR.hE.grph
 have hm:=hR.memO hb
 unfold Go.Proofs.YtdilpodccjlkgaaGreatDoor.isNear
 simp only[qz,Bool.not_eq_true',decide_eq_false_iff_not,w3,Bool.or_eq_true]
 constructor
 ·rintro ⟨⟨h1,h2⟩,h3⟩
  have hab:=(hR.domF a b).1 h2
  have h0:b≠0:=fun e=>by
   subst e
   exact h1 (pl hG hab (.root hab.rch))
  refine ⟨h0,?_⟩
  obtain ⟨g1,_⟩:=hG.near_mem hm h0
  have hp:=(hR.near_dom hb h0).2 (.refl ((bP hG.toEOk _).1 g1))
  have hpr:=b3 hG.toEOk g1
  have:=h3 _ (cM.2 hpr)
  have hpa:gF (ah f) (gi (bl (ah f) f.blocks.length) b) a:=by
   rcases this with h|h
   ·rw[(hR.domF _ _).2 hp.1,qy hp.2] at h;cases h
   ·exact (hR.domF _ _).1 h
  exact pl hG ((hR.near_dom hb h0).1 ⟨hab,h1⟩) hpa
 ·rintro ⟨h0,rfl⟩
  obtain ⟨g1,_⟩:=hG.near_mem hm h0
  have hp:=(hR.near_dom hb h0).2 (.refl ((bP hG.toEOk _).1 g1))
  refine ⟨⟨hp.2,(hR.domF _ _).2 hp.1⟩,fun x _=>?_⟩
  by_cases hx:x≠b∧gF (ah f) x b
  ·exact .inr ((hR.domF _ _).2 ((hR.near_dom hb h0).1 ⟨hx.2,hx.1⟩))
  ·left
   by_cases e:x=b
   ·simp[e]
   ·have:Go.Proofs.YtdilpodccjlkgaaGreatDoor.domF f x b=false:=by
     cases h:Go.Proofs.YtdilpodccjlkgaaGreatDoor.domF f x b with
     |false=>rfl
     |true=>exact absurd ⟨e,(hR.domF x b).1 h⟩ hx
    rw[this,Bool.and_false]
theorem bE.nearD {b:Int} (hb:0≤b∧b<f.blocks.length):nearD f b=if b=0 then -1 else gi (bl (ah f) f.blocks.length) b:=by
 have hG:=hR.hE.grph
 unfold Go.Proofs.YtdilpodccjlkgaaGreatDoor.nearD
 cases h:(aU f.blocks.length).find? fun a=>Go.Proofs.YtdilpodccjlkgaaGreatDoor.isNear f a b with
 |none=>
  by_cases h0:b=0
  ·rw[if_pos h0];rfl
  ·obtain ⟨g1,_⟩:=hG.near_mem (hR.memO hb) h0
   exact absurd ((hR.isNear hb).2 ⟨h0,rfl⟩) (List.find?_eq_none.1 h _ (cM.2 (b3 hG.toEOk g1)))
 |some a=>
  have h1:Go.Proofs.YtdilpodccjlkgaaGreatDoor.isNear f a b=true:=List.find?_some (p:=fun a=>Go.Proofs.YtdilpodccjlkgaaGreatDoor.isNear f a b) h
  obtain ⟨h0,e⟩:=(hR.isNear hb).1 h1
  rw[if_neg h0,←e];rfl
theorem bE.upT {b:Int} (hb:0≤b∧b<f.blocks.length):upT f b=b::if b=0 then[] else upT f (gi (bl (ah f) f.blocks.length) b):=by
 have hG:=hR.hE.grph
 have hm:=hR.memO hb
 obtain ⟨m,hm2⟩:∃m,f.blocks.length=m+1:=⟨f.blocks.length - 1,by omega⟩
 unfold Go.Proofs.YtdilpodccjlkgaaGreatDoor.upT
 conv=>lhs;rw[show cN (bl (ah f) f.blocks.length) f.blocks.length b=cN (bl (ah f) f.blocks.length) (m+1) b from by rw[←hm2]]
 show b::(if b=0 then[] else cN (bl (ah f) f.blocks.length) m (gi (bl (ah f) f.blocks.length) b))=_
 congr 1
 split
 ·rfl
 ·rename_i h0
  obtain ⟨g1,_⟩:=hG.near_mem hm h0
  have hl:=hG.lev_near hm h0
  obtain ⟨j,rfl⟩:∃j:Nat,b=(j:Int):=⟨b.toNat,by omega⟩
  have:=hR.lev (i:=j) (by omega)
  exact lQ hG m f.blocks.length _ g1 (by omega) (by omega)
end
end Go.Proofs.YtdilpodccjlkgaaGreatDoor
namespace Go.Proofs.YtdilpodccjlkgaaGreatDoor
open Go.Proofs.Tryz
section
variable {f:ad} (hR:bE f)
include hR
theorem bE.rk0 {v:Int} {y:aF} (h:b4 f v=some y) (hl:0<y.args.length):mC f (bc y)<mC f v:=hR.rk_arg h _ (G9 hl)
theorem bE.rk1 {v:Int} {y:aF} (h:b4 f v=some y) (hl:1<y.args.length):mC f (bC y)<mC f v:=hR.rk_arg h _ (Ha hl)
theorem kE (K:KS):∀(n m:Nat) (v:Int),mC f v<n→mC f v<m→fa f K n v=fa f K m v
 |0,_,_,h,_=>by omega
 |_,0,_,_,h=>by omega
 |n+1,m+1,v,hn,hm=>by
  unfold fa
  cases hx:b4 f v with
  |none=>rfl
  |some x=>
   obtain ⟨hF,_,_⟩:=hR.madeF hx
   have a0:∀{k:Int},x.op=k→0<([0,1,2,2,2,2,2,2,2,2,1,2,1,2,3,1,0,1,2,1,1,2,2,2,1,2,2][k.toNat]?).getD 0→fa f K n (bc x)=fa f K m (bc x):=fun e h=>by
    have:=hR.rk0 hx (by rw[hF.cnt e];exact h)
    exact kE K n m _ (by omega) (by omega)
   have a1:∀{k:Int},x.op=k→1<([0,1,2,2,2,2,2,2,2,2,1,2,1,2,3,1,0,1,2,1,1,2,2,2,1,2,2][k.toNat]?).getD 0→fa f K n (bC x)=fa f K m (bC x):=fun e h=>by
    have:=hR.rk1 hx (by rw[hF.cnt e];exact h)
    exact kE K n m _ (by omega) (by omega)
   dsimp only
   by_cases h8:x.op=8
   ·rw[if_pos h8,if_pos h8]
   by_cases h9:x.op=9
   ·rw[if_neg h8,if_neg h8,if_pos h9,if_pos h9]
   by_cases h7:x.op=7
   ·rw[if_neg h8,if_neg h8,if_neg h9,if_neg h9,if_pos h7,if_pos h7]
   by_cases h1:x.op=1
   ·rw[if_neg h8,if_neg h8,if_neg h9,if_neg h9,if_neg h7,if_neg h7,if_pos h1,if_pos h1,a0 h1 (by decide)]
   by_cases h10:x.op=10
   ·rw[if_neg h8,if_neg h8,if_neg h9,if_neg h9,if_neg h7,if_neg h7,if_neg h1,if_neg h1,if_pos h10,if_pos h10,a0 h10 (by decide)]
   by_cases h11:x.op=11
   ·rw[if_neg h8,if_neg h8,if_neg h9,if_neg h9,if_neg h7,if_neg h7,if_neg h1,if_neg h1,if_neg h10,if_neg h10,if_pos h11,if_pos h11,a0 h11 (by decide),a1 h11 (by decide)]
   ·rw[if_neg h8,if_neg h8,if_neg h9,if_neg h9,if_neg h7,if_neg h7,if_neg h1,if_neg h1,if_neg h10,if_neg h10,if_neg h11,if_neg h11]
end
end Go.Proofs.YtdilpodccjlkgaaGreatDoor
namespace Go.Proofs.YtdilpodccjlkgaaGreatDoor
open Go.Proofs.Tryz
abbrev fk:=Int × Bool
def fy (es:List (fk × Int)):Int:=(es.map (·.2)).sum
theorem BZ (es:List (fk × Int)) (k:fk) (v:Int):fy (es++[(k,v)])=fy es+v:=by unfold fy;simp
theorem B3:∀{es:List (fk × Int)} {j:Nat} {k:fk} {u:Int} (v:Int),es[j]?=some (k,u)→fy (es.set j (k,v))=fy es - u+v
 |x::es,0,k,u,v,h=>by
  cases h
  unfold fy
  simp only[List.set_cons_zero,List.map_cons,List.sum_cons];omega
 |x::es,j+1,k,u,v,h=>by
  have ih:=B3 (es:=es) (j:=j) v h
  unfold fy at ih ⊢
  rw[List.set_cons_succ,List.map_cons,List.sum_cons,ih,List.map_cons,List.sum_cons];omega
theorem xx (es:List (fk × Int)) (k:fk) (v:Int):fy (bW es k v)=fy es - (be es k).getD 0+v:=by
 cases h:fm k es 0 with
 |none=>
  have hg:be es k=none:=by unfold be;rw[h];rfl
  rw[gy hg,BZ,hg];simp
 |some q=>
  obtain ⟨j,u⟩:=q
  have hg:be es k=some u:=by unfold be;rw[h];rfl
  have h1:bW es k v=es.set j (k,v):=by unfold bW;rw[h]
  rw[h1,B3 v (f7 h).1,hg];rfl
theorem mZ (es:List (fk × Int)) (k k':fk) (v:Int):be (bW es k v) k'=if k'=k then some v else be es k':=by
 cases h:fm k es 0 with
 |none=>exact pu (by unfold be;rw[h];rfl) v k'
 |some q=>
  split
  ·rename_i e
   subst e
   obtain ⟨j,hj,_⟩:=wh (es:=es) (k:=k') v
   unfold be;rw[hj];rfl
  ·rename_i hne
   obtain ⟨j,u⟩:=q
   have h1:bW es k v=es.set j (k,v):=by unfold bW;rw[h]
   rw[h1]
   have key:∀(es:List (fk × Int)) (i j:Nat),(∀x,es[j]?=some x→x.1=k)→(fm k' (es.set j (k,v)) i).map (·.2)=(fm k' es i).map (·.2):=fun es=>by
    induction es with
    |nil=>intro i j _;rfl
    |cons x es ih=>
     intro i j hx
     obtain ⟨k2,w⟩:=x
     cases j with
     |zero=>
      have:k2=k:=hx _ rfl
      subst this
      rw[List.set_cons_zero]
      unfold fm
      rw[if_neg hne,if_neg hne]
     |succ j=>
      rw[List.set_cons_succ]
      unfold fm
      split
      ·rfl
      ·exact ih (i+1) j hx
   have h2:=(f7 h).1
   exact key es 0 j fun x hx=>by rw[h2] at hx;cases hx;rfl
structure im (f:ad) (es:List (fk × Int)) (q:gq):Prop where
 get:∀k,(be es k).isSome=q.seen.contains k
 pos:∀e∈es,1≤e.2
 nod:q.seen.Nodup
 rng:∀k∈q.seen,aZ f k.1=true
 out:q.out.length≤q.seen.length
section
variable {f:ad} {es:List (fk × Int)} {q:gq}
theorem im.emp (f:ad):im f [] ⟨[],[]⟩:=⟨fun k=>rfl,fun e he=>(by cases he),List.nodup_nil,fun k hk=>(by cases hk),Nat.le_refl _⟩
theorem sL:∀(es:List (fk × Int)),(∀e∈es,1≤e.2)→0≤fy es
 |[],_=>by decide
 |x::es,h=>by
  have:=sL es fun e he=>h e (.tail _ he)
  have:=h x (.head _)
  unfold fy at *
  rw[List.map_cons,List.sum_cons];omega
theorem xy:∀(es:List (fk × Int)),(∀e∈es,1≤e.2)→∀e∈es,e.2≤fy es
 |x::es,h,e,he=>by
  have h1:=sL es fun e he=>h e (.tail _ he)
  have h2:=h x (.head _)
  have e1:fy (x::es)=x.2+fy es:=by unfold fy;simp
  rw[e1]
  rcases List.mem_cons.1 he with rfl|he
  ·omega
  ·have:=xy es (fun e he=>h e (.tail _ he)) e he;omega
theorem uI {k:fk} {v:Int} (h:be es k=some v):(k,v)∈es:=by
 unfold be at h
 cases hq:fm k es 0 with
 |none=>rw[hq] at h;cases h
 |some p=>
  obtain ⟨j,u⟩:=p
  rw[hq] at h
  cases h
  exact qu (f7 hq).1
theorem im.val (h:im f es q) (k:fk):0≤(be es k).getD 0∧(be es k).getD 0≤fy es∧(q.seen.contains k=true↔1≤(be es k).getD 0):=by
 have hg:=h.get k
 have hn:=sL es h.pos
 cases hk:be es k with
 |none=>rw[hk] at hg;rw[←hg];simp;exact hn
 |some v=>
  rw[hk] at hg
  rw[←hg]
  have:=h.pos _ (uI hk)
  have:=xy es h.pos _ (uI hk)
  simp at *;omega
theorem xz (h:∀e∈es,1≤e.2) (k:fk) {v:Int} (hv:1≤v):∀e∈bW es k v,1≤e.2:=fun e he=>by
 unfold bW at he
 split at he
 ·rcases vZ he with he|he
  ·exact h e he
  ·rw[he];exact hv
 ·rcases List.mem_append.1 he with he|he
  ·exact h e he
  ·rw[List.mem_singleton.1 he];exact hv
theorem im.len (h:im f es q):q.seen.length≤2*f.vars.length:=by
 have hsub:∀k∈q.seen,k∈(aU f.vars.length).flatMap fun i=>[(i,true),(i,false)]:=fun k hk=>by
  have hr:0≤k.1∧k.1<f.vars.length:=by simpa [aZ] using h.rng k hk
  refine List.mem_flatMap.2 ⟨k.1,cM.2 hr,?_⟩
  obtain ⟨a,b⟩:=k
  cases b<;>simp
 have h1:=List.Nodup.length_le_of_subset h.nod hsub
 have h2:∀l:List Int,(l.flatMap fun i=>[(i,true),(i,false)]).length=2*l.length:=fun l=>by
  induction l with
  |nil=>rfl
  |cons a l ih=>
   rw[List.flatMap_cons,qq,ih,List.length_cons]
   show 2+2*l.length=2*(l.length+1)
   omega
 have h2:=h2 (aU f.vars.length)
 rw[bA] at h2
 omega
theorem im.old (h:im f es q) {k:fk} (hk:q.seen.contains k=true):im f (bW es k ((be es k).getD 0+1)) q∧fy (bW es k ((be es k).getD 0+1))=fy es+1:=by
 have hv:=h.val k
 refine ⟨⟨fun k'=>?_,xz h.pos k (by omega),h.nod,h.rng,h.out⟩,by rw[xx];omega⟩
 rw[mZ]
 split
 ·rename_i e;subst e;exact hk.symm
 ·exact h.get k'
theorem im.new (h:im f es q) {k:fk} (hk:q.seen.contains k=false) (hr:aZ f k.1=true):im f (bW es k ((be es k).getD 0+1)) ⟨q.seen++[k],q.out⟩∧fy (bW es k ((be es k).getD 0+1))=fy es+1:=by
 have hv:=h.val k
 refine ⟨⟨fun k'=>?_,xz h.pos k (by omega),?_,fun k' hk'=>?_,?_⟩,by rw[xx];omega⟩
 ·rw[mZ]
  split
  ·rename_i e;subst e;simp
  ·rename_i hne
   rw[h.get k',qt]
   simp[hne]
 ·show (q.seen++[k]).Nodup
  rw[List.nodup_append]
  refine ⟨h.nod,by simp,fun a ha b hb e=>?_⟩
  simp at hb
  subst hb e
  rw[List.contains_iff_mem.2 ha] at hk;cases hk
 ·rcases List.mem_append.1 hk' with hk'|hk'
  ·exact h.rng k' hk'
  ·rw[List.mem_singleton.1 hk'];exact hr
 ·show q.out.length≤(q.seen++[k]).length
  have:=h.out
  rw[qq];simp;omega
theorem im.tell {k:fk} (h:im f es ⟨q.seen++[k],q.out⟩) (ho:q.out.length≤q.seen.length) (a b n:Int):im f es (dS ⟨q.seen++[k],q.out⟩ a b n)∧(dS ⟨q.seen++[k],q.out⟩ a b n).seen=q.seen++[k]:=by
 unfold dS
 split
 ·exact ⟨h,rfl⟩
 ·refine ⟨⟨h.get,h.pos,h.nod,h.rng,?_⟩,rfl⟩
  show (q.out++_).length≤(q.seen++[k]).length
  simp;omega
end
structure kF (f:ad) (q:gq):Prop where
 nod:q.seen.Nodup
 rng:∀k∈q.seen,aZ f k.1=true
 out:q.out.length≤q.seen.length
theorem kF.len {f:ad} {q:gq} (h:kF f q):q.out.length≤2*f.vars.length:=by
 have hsub:∀k∈q.seen,k∈(aU f.vars.length).flatMap fun i=>[(i,true),(i,false)]:=fun k hk=>by
  have hr:0≤k.1∧k.1<f.vars.length:=by simpa [aZ] using h.rng k hk
  refine List.mem_flatMap.2 ⟨k.1,cM.2 hr,?_⟩
  obtain ⟨a,b⟩:=k
  cases b<;>simp
 have h1:=List.Nodup.length_le_of_subset h.nod hsub
 have h2:∀l:List Int,(l.flatMap fun i=>[(i,true),(i,false)]).length=2*l.length:=fun l=>by
  induction l with
  |nil=>rfl
  |cons a l ih=>
   rw[List.flatMap_cons,qq,ih,List.length_cons]
   show 2+2*l.length=2*(l.length+1)
   omega
 have h2:=h2 (aU f.vars.length)
 rw[bA] at h2
 have:=h.out
 omega
theorem kF.push {f:ad} {q:gq} (h:kF f q) {k:fk} (hk:q.seen.contains k=false) (hr:aZ f k.1=true):kF f ⟨q.seen++[k],q.out⟩∧∀a b n,kF f (dS ⟨q.seen++[k],q.out⟩ a b n):=by
 have hn:(q.seen++[k]).Nodup:=by
  rw[List.nodup_append]
  refine ⟨h.nod,by simp,fun a ha b hb e=>?_⟩
  simp at hb
  subst hb e
  rw[List.contains_iff_mem.2 ha] at hk;cases hk
 have hg:∀k'∈q.seen++[k],aZ f k'.1=true:=fun k' hk'=>by
  rcases List.mem_append.1 hk' with hk'|hk'
  ·exact h.rng k' hk'
  ·rw[List.mem_singleton.1 hk'];exact hr
 have ho:=h.out
 have h1:kF f ⟨q.seen++[k],q.out⟩:=⟨hn,hg,by show q.out.length≤(q.seen++[k]).length;simp;omega⟩
 refine ⟨h1,fun a b n=>?_⟩
 unfold dS
 split
 ·exact h1
 ·exact ⟨hn,hg,by show (q.out++_).length≤(q.seen++[k]).length;simp;omega⟩
theorem lp {f:ad} (hR:bE f):∀(n:Nat) (q:gq) (c:Int) (is:Bool),kF f q→aZ f c=true→kF f (fv f n q c is)
 |0,q,_,_,h,_=>h
 |n+1,q,c,is,h,hc=>by
  unfold fv
  split
  ·exact h
  rename_i hk
  have hk:q.seen.contains (c,is)=false:=by simpa using hk
  obtain ⟨h1,h2⟩:=h.push hk hc
  split
  ·exact h1
  rename_i x hx
  obtain ⟨hF,_,_⟩:=hR.madeF hx
  have a0:∀{k:Int},x.op=k→0<([0,1,2,2,2,2,2,2,2,2,1,2,1,2,3,1,0,1,2,1,1,2,2,2,1,2,2][k.toNat]?).getD 0→aZ f (bc x)=true:=fun e h=>by
   have:=hF.a0 (by rw[hF.cnt e];exact h)
   unfold aZ;simpa using ⟨this.2,this.1⟩
  have a1:∀{k:Int},x.op=k→1<([0,1,2,2,2,2,2,2,2,2,1,2,1,2,3,1,0,1,2,1,1,2,2,2,1,2,2][k.toNat]?).getD 0→aZ f (bC x)=true:=fun e h=>by
   have:=hF.a1 (by rw[hF.cnt e];exact h)
   unfold aZ;simpa using ⟨this.2,this.1⟩
  split
  ·rename_i e;exact lp hR n _ _ _ h1 (a0 e (by decide))
  split
  ·rename_i e;exact lp hR n _ _ _ h1 (a0 e (by decide))
  split
  ·rename_i e
   split
   ·exact lp hR n _ _ _ (lp hR n _ _ _ h1 (a0 e (by decide))) (a1 e (by decide))
   ·exact h1
  split
  ·split
   ·exact h2 _ _ _
   ·exact h2 _ _ _
  split
  ·split
   ·exact h2 _ _ _
   ·exact h2 _ _ _
  split
  ·split
   ·exact h2 _ _ _
   ·exact h1
  ·exact h1
theorem rH {f:ad} (hR:bE f) {c:Int} (is:Bool) (hc:aZ f c=true):(gS f c is).length≤2*f.vars.length:=(lp hR 100000 ⟨[],[]⟩ c is ⟨List.nodup_nil,fun k hk=>(by cases hk),Nat.le_refl _⟩ hc).len
end Go.Proofs.YtdilpodccjlkgaaGreatDoor
namespace Go.Proofs.YtdilpodccjlkgaaGreatDoor
open Go.Proofs.Tryz
open Go.Proofs Go.Lib Go.Shelf Go.RowKit
variable {E:World}
set_option maxRecDepth 20000
def m0:sI (Int × Int) where
 av:=fun k=>[.int .i64 k.1,.int .i64 k.2]
 val:=fun k=>#[.int .i64 k.1,.int .i64 k.2]
 one:=fun {I k v} h=>by
  obtain ⟨vs,rfl,a,_,rfl,h1,b,_,rfl,h2,h3⟩:=h
  have h1:a=.int .i64 k.1:=h1
  have h2:b=.int .i64 k.2:=h2
  have h3:_=[]:=h3
  subst h1 h2 h3;rfl
 bits:=fun k=>by unfold Instr.sameBits;simp[Instr.sameBits]
def sM:sI (Int × Bool) where
 av:=fun k=>[.int .i64 k.1,.bool k.2]
 val:=fun k=>#[.int .i64 k.1,.bool k.2]
 one:=fun {I k v} h=>by
  obtain ⟨vs,rfl,a,_,rfl,h1,b,_,rfl,h2,h3⟩:=h
  have h1:a=.int .i64 k.1:=h1
  have h2:b=.bool k.2:=h2
  have h3:_=[]:=h3
  subst h1 h2 h3;rfl
 bits:=fun k=>by unfold Instr.sameBits;simp[Instr.sameBits]
set_option maxRecDepth 200000 in
set_option maxHeartbeats 4000000 in
theorem B4:ik m0 prog 77 where
 und:=⟨_,Zp⟩
 chk:=fun e k w=>by
  have hS:prog.underlying 77=some (.struct (prog.fieldsOf 77)):=by kernel_rfl
  rw[show (10000:Nat)=9999+1 from rfl]
  unfold Instr.checkKey
  rw[Sem.run_bind,run_underlying hS]
  simp only[Result.andThen,m0,Program.fieldsOf,Zp]
  have h1:∀n w,(Instr.checkKey e 9999 3 (.int .i64 n)).run prog w=.ok () w:=fun n w=>MapKept.run_checkKey (d:=.int .i64) (k:=kv n) Zu (n9 n) e 9998
  simp[part,j7,h1,Sem.run_bind,Result.andThen]
 eq:=fun k k' w=>by
  have hS:prog.underlying 77=some (.struct (prog.fieldsOf 77)):=by kernel_rfl
  have hp:prog.stoodInHeld 77=false:=by kernel_rfl
  unfold Op.equal m0
  rw[show Op.maxDepth=9999+1 from rfl,run_equalIn_agg w 9999 _ _ _ hS hp]
  simp only[Program.fieldsOf,Zp]
  simp[Op.eqFields,part,j7,run_equalIn_int,Zu]
  obtain ⟨a,b⟩:=k
  obtain ⟨a',b'⟩:=k'
  by_cases h1:a=a'<;>by_cases h2:b=b'<;>simp[h1,h2]
set_option maxRecDepth 200000 in
set_option maxHeartbeats 4000000 in
theorem jG:ik sM prog 279 where
 und:=⟨_,underlying279⟩
 chk:=fun e k w=>by
  have hS:prog.underlying 279=some (.struct (prog.fieldsOf 279)):=by kernel_rfl
  rw[show (10000:Nat)=9999+1 from rfl]
  unfold Instr.checkKey
  rw[Sem.run_bind,run_underlying hS]
  simp only[Result.andThen,sM,Program.fieldsOf,underlying279]
  have h1:∀n w,(Instr.checkKey e 9999 3 (.int .i64 n)).run prog w=.ok () w:=fun n w=>MapKept.run_checkKey (d:=.int .i64) (k:=kv n) Zu (n9 n) e 9998
  have h2:∀n w,(Instr.checkKey e 9999 4 (.bool n)).run prog w=.ok () w:=fun n w=>MapKept.run_checkKey (d:=.bool) (k:=.bool n) Y0 trivial e 9998
  simp[part,j7,Y7,h1,h2,Sem.run_bind,Result.andThen]
 eq:=fun k k' w=>by
  have hS:prog.underlying 279=some (.struct (prog.fieldsOf 279)):=by kernel_rfl
  have hp:prog.stoodInHeld 279=false:=by kernel_rfl
  unfold Op.equal sM
  rw[show Op.maxDepth=9999+1 from rfl,run_equalIn_agg w 9999 _ _ _ hS hp]
  simp only[Program.fieldsOf,underlying279]
  simp[Op.eqFields,part,j7,Y7,run_equalIn_int,run_equalIn_bool',Zu,Y0]
  obtain ⟨a,b⟩:=k
  obtain ⟨a',b'⟩:=k'
  by_cases h1:a=a'<;>by_cases h2:b=b'<;>simp[h1,h2]
end Go.Proofs.YtdilpodccjlkgaaGreatDoor
namespace Go.Proofs.YtdilpodccjlkgaaGreatDoor
open Go.Proofs.Tryz
open Go.Proofs Go.Lib Go.Shelf Go.RowKit
theorem Gp:cX prog 183 #[(0,1),(1,1),(2,1)] [.int .i64 0,.int .i64 0,.int .i64 0]:=⟨_,_,Yo,zeroValue183,fun w=>by kernel_rfl,rfl⟩
theorem DI:cU prog 181 183 1 3 [.int .i64 0,.int .i64 0,.int .i64 0]:=⟨_,underlying181,sizeOf183,zeroValue183,by decide,by decide,by kernel_rfl⟩
variable {E:World}
set_option maxRecDepth 20000
def ee (r:v2):List AV:=[.int .i64 r.a,.int .i64 r.b,.int .i64 r.n]
theorem uJ (l:List v2):(l.map ee).flatten.length=l.length*3:=by
 induction l with
 |nil=>rfl
 |cons o r ih=>rw[List.map_cons,List.flatten_cons,qq,ih,List.length_cons];show 3+_=_;omega
theorem lR {f:ad} {v:Int} (h:v<f.vars.length∧0≤v):aZ f v=true:=by unfold aZ;simpa using ⟨h.2,h.1⟩
theorem ns {f:ad} {v:Int} (h:aZ f v=true):aK prog E 202 [.agg (bD f),.fro 2 ((cE f).map eP.row),.int .i64 v] (.tup [.agg (Hi (b4 f v)),.bool (b4 f v).isSome]):=by
 obtain ⟨hv0,hvg⟩:=fS h
 unfold bD
 refine zq func202 U (by decide) U<|ae<|y9 (cs:=_) U U U<|y6 (cs:=[.int .i64 0,.int .i64 0,.raw (.slice none 0 0),.int .i64 0]) Z4 U U<|fun i6=>ab U<|z6<|zd<|ae<|aT U<|aa U<|za (bh v.toNat Zt Yh U U (by omega) hvg)<|ac isAgg77 Yh U U<|y6 (cs:=[.int .i64 0,.int .i64 0]) zeroValue77 U U<|fun i8=>y1 Yh U U U U U U .head U<|zf (yf (t:=8) U .head)<|z6<|zd<|ya (γ:=Bool) [3,6,8] (fun u=>[(20,.bool u)]) (fun u=>[(i6,.cells 54 [.int .i64 0,.int .i64 0,.raw (.slice none 0 0),.int .i64 0])]) (fun u=>u=decide (0≤(aL f v).1∧0≤(aL f v).2)) ?_ (fun _ _ h=>h) ?_
 ·refine aO<|ao Zp U j6 U U<|ay j7 U<|za (yy U U)<|aj U<|zo (s:=16) U (fun c1=>?_) (fun c1=>?_)
  ·refine z8 U U c1<|ao Zp U j6 U U<|z8 U U c1<|ay j7 U<|z8 U U c1<|za (yy U U)<|aq U c1 U<|z6 ?_
   exact ⟨_,de,aH,aD,by simp_all<;>omega⟩
  ·refine z7 U U c1<|z7 U U c1<|z7 U U c1<|au U c1 U<|z6 ?_
   exact ⟨_,de,aH,aD,by simp_all<;>omega⟩
 ·rintro u hu
  refine zy U (fun cu=>?_) (fun cu=>?_)
  ·have hy:0≤(aL f v).1∧0≤(aL f v).2:=w4 (hu▸cu)
   obtain ⟨i,b,h1,h2,h3⟩:=eH hy.1
   obtain ⟨q,x,h4,h5,h6⟩:∃(q:Nat) (x:aF),b.insts[q]?=some x∧x.dst=v∧(aL f v).2=q:=by
    rcases h3 with ⟨_,_,_,h4⟩|h3
    ·omega
    ·exact h3
   have hm:b4 f v=some x:=by unfold b4;rw[if_pos hy,h2,h6,Int.toNat_natCast,Int.toNat_natCast,h1];exact h4
   rw[hm]
   refine zd<|zw (fun j=>Nat.beq j 11) (by kernel_rfl) U (zh (.rest _))<|ak 0 U (bx jg U Z6 U U)<|ak 1 U (dx Zd U)<|ak 2 U (bx Zp U j6 U U)<|ak 3 U (b7 j7 U)<|ak 4 U (bh i jk Z0 U U h2 h1)<|ak 5 U (bx jj U Zo U U)<|ak 6 U (dx Zx U)<|ak 7 U (bx Zp U j6 U U)<|ak 8 U (b7 j7 U)<|ak 9 U (bh q jz jv U U h6 h4)<|ak 10 U (yr Zk jv U U)<|ym<|yi (i:=11) U (by kernel_rfl) (by kernel_rfl)<|y1 jv U U U U U U .head U<|z6<|yi (i:=12) U (by kernel_rfl) (by kernel_rfl)<|ab U<|z6<|yo (by kernel_rfl)<|zi<|dI.c1t (y:=.bool _) U U ⟨_,.head⟩ Zk jv U ?_
   rfl
  ·have hn:b4 f v=none:=by unfold b4;rw[if_neg (w5 (hu▸cu))]
   rw[hn]
   refine zg<|ae<|za (y5 (cps:=[]) (rs:=[.int .i64 0,.int .i64 0,.raw (.slice none 0 0),.int .i64 0]) BO U U U)<|y1 jv U U U U U U .head U<|ab U<|z6<|zi<|dI.c1t (y:=.bool _) U U ⟨_,.head⟩ Zk jv U ?_
   rfl
theorem uK {f:ad} {v:Int} (h:aZ f v=true) (hm:b4 f v=none):aK prog E 202 [.agg (bD f),.fro 2 ((cE f).map eP.row),.int .i64 v] (.tup [.agg [.int .i64 0,.int .i64 0,.raw (.slice none 0 0),.int .i64 0],.bool false]):=by
 have:=ns (E:=E) h
 rw[hm] at this
 exact this
theorem uL {f:ad} {v:Int} (h:aZ f v=true) {y:aF} (hm:b4 f v=some y):aK prog E 202 [.agg (bD f),.fro 2 ((cE f).map eP.row),.int .i64 v] (.tup [.agg (aP y),.bool true]):=by
 have:=ns (E:=E) h
 rw[hm] at this
 exact this
def B5 (f:ad) (bs jo n:Nat):List AV:=[.fro 2 (f.vars.map fq),.fro 1 (f.params.map cW),.fro 7 (f.blocks.map cZ),.fro 2 ((cE f).map eP.row),dw bs,.own jo n]
def sN (f:ad) (iq bs jo:Nat) (es:List (fk × Int)) (q:gq):OL:=[(iq,.cells 256 (B5 f bs jo q.out.length)),(0,ln sM bs es),(jo,.grow 3 183 (q.out.map ee).flatten)]
theorem wk (f:ad) (iq bs jo:Nat) (es:List (fk × Int)) (q:gq) (a b n:Int) (hl:q.out.length≤100000) :
  aR prog E 203 [.po iq 0,.int .i64 a,.int .i64 b,.int .i64 n] (sN f iq bs jo es q) (fun y O=>∃g:Nat,y=.tup []∧O=sN f iq bs g es (dS q a b n)∧True):=by
 refine yu (γ:=Nat) (x:=fun g=>.tup []) (M:=fun g=>sN f iq bs g es (dS q a b n)) (p:=fun _=>True) ?_
 unfold sN
 refine zq func203 U (by decide) U<|ae<|aa U<|aa U<|aM U U<|z6<|zy U (fun c=>?_) (fun c=>?_)
 ·have c:¬a=b:=by simpa using c
  have ht:dS q a b n=⟨q.seen,q.out++[⟨a,b,n⟩]⟩:=by unfold dS;rw[if_neg c]
  have hrl:=uJ q.out
  refine aO<|aE U<|aE U<|aw U<|za (zn Y6 U sizeOf181 (by decide) U U)<|za (zt (c:=.own _ _) isAgg181 U ⟨_,.head⟩ U)<|aa U<|aa U<|aa U<|za (y5 (cps:=[(0,[_]),(1,[_]),(2,[_])]) (rs:=[_,_,_]) Gp U U U)<|y4 (rows:=[[_,_,_]]) DI U U U U U<|yj (k:=3) underlying181 type183 U U U U U (fun _=>.t2) hrl (by decide) U (by show (_+_)*24≤_;simp<;>omega) (by simp<;>omega)<|fun i21=>aw U<|za (zn Y6 U sizeOf181 (by decide) U U)<|yw (l:=[_]) (new:=[_,_,_,_,_,_]) sizeOf181 U U U U U U .head U U<|z6<|ye (zb (zc .t2))<|ye (zb (zc .t2))<|ye (zb (zc .t2))<|yh ?_
  exact ⟨i21,rfl,⟨_,.refl _,by rw[ht,qv,List.flatten_append,qq];rfl⟩,trivial⟩
 ·have c:a=b:=by simpa using c
  have ht:dS q a b n=q:=by unfold dS;rw[if_pos c]
  refine zg<|yh ?_
  exact ⟨jo,rfl,⟨_,.refl _,by rw[ht]⟩,trivial⟩
end Go.Proofs.YtdilpodccjlkgaaGreatDoor
namespace Go.Proofs.YtdilpodccjlkgaaGreatDoor
open Go.Proofs.Tryz
open Go.Proofs Go.Lib Go.Shelf Go.RowKit
theorem B6:cX prog 279 #[(0,1),(1,1)] [.int .i64 0,.bool false]:=⟨_,_,underlying279,zeroValue279,fun w=>by kernel_rfl,rfl⟩
variable {E:World}
set_option maxRecDepth 20000
def B7 (E:World) (f:ad) (iq bs:Nat) (n:Nat):Prop:=∀(q:gq) (es:List (fk × Int)) (jo:Nat) (c:Int) (is:Bool),aZ f c=true→mC f c<n→im f es q→fy es≤2*q.seen.length →
 aR prog E 185 [.po iq 0,.int .i64 c,.bool is] (sN f iq bs jo es q) (fun y O=>∃g:Nat × List (fk × Int),y=.tup []∧O=sN f iq bs g.1 g.2 (fv f n q c is)∧im f g.2 (fv f n q c is)∧fy g.2+2*q.seen.length≤fy es+2*(fv f n q c is).seen.length+1)
set_option maxHeartbeats 16000000 in
theorem B8 (f:ad) (hR:bE f) (hv:f.vars.length≤1000) (iq bs n:Nat) (ih:B7 E f iq bs n):B7 E f iq bs (n+1):=by
 intro q es jo c is hc hrk hA hcn
 have hval:=hA.val (c,is)
 have hlen:=hA.len
 have hol:=hA.out
 have hnn:=sL es hA.pos
 obtain ⟨es1,hes1⟩:∃es1,bW es (c,is) ((be es (c,is)).getD 0+1)=es1:=⟨_,rfl⟩
 have hg1:(be es1 (c,is)).getD 0=(be es (c,is)).getD 0+1:=by rw[←hes1,mZ,if_pos rfl];rfl
 have hold:=fun h=>hA.old (k:=(c,is)) h
 have hnew:=fun h=>hA.new (k:=(c,is)) h hc
 rw[hes1] at hold hnew
 refine yu (γ:=Nat × List (fk × Int)) (x:=fun _=>.tup []) (M:=fun g=>sN f iq bs g.1 g.2 (fv f (n+1) q c is)) (p:=fun g=>im f g.2 (fv f (n+1) q c is)∧fy g.2+2*q.seen.length≤fy es+2*(fv f (n+1) q c is).seen.length+1) ?_
 have tell:=fun es (k:fk) a b m=>wk (E:=E) f iq bs jo es ⟨q.seen++[k],q.out⟩ a b m (by show q.out.length≤_;omega)
 have ih:=fun q es jo c is h1 h2 h3 h4=>ih q es jo c is h1 h2 h3 h4
 unfold sN at tell ih ⊢
 unfold fv
 refine zq func185 U (by decide) U ?_
 rcases hm:b4 f c with _|x
 ·refine zd<|ya (γ:=Nat) [0,1,2] (fun g=>[(6,.po g 0),(7,.bool false)]) (fun g=>[(iq,.cells 256 (B5 f bs jo q.out.length)),(g,.cells 54 [.int .i64 0,.int .i64 0,.raw (.slice none 0 0),.int .i64 0]),(0,ln sM bs es),(jo,.grow 3 183 (q.out.map ee).flatten)]) (fun g=>True) ?_ (fun _ _ h=>h) ?_
  ·refine zw (fun j=>Nat.beq j 14) (by kernel_rfl) U (zh (.r (.rest _)))<|ak 0 U (ef U)<|ak 1 U (yb U)<|ak 2 U (zn Y6 U jf (by decide) U U)<|ak 3 U (Gv.loadAC (l:=[_,_,_]) ju jf U ⟨_,.head⟩ U U)<|ak 4 U (ef U)<|ak 5 U (yb U)<|ak 6 U (zn Y6 U Yi (by decide) U U)<|ak 7 U (zt (c:=.fro _ _) X5 U ⟨_,.head⟩ U)<|ak 8 U (dq U)<|yq (i:=9) (j:=13) U U (by kernel_rfl) ?_ ?_
   ·refine ze (uK hc hm) U<|z6<|ak 10 U (Ft U)<|ak 11 U (yz (v:=.agg _) U U)<|yx (i:=12) U (by kernel_rfl) (by kernel_rfl) (by kernel_rfl) (by kernel_rfl) (D9 U U)<|ba 13 U<|y6 (cs:=[.int .i64 0,.int .i64 0,.raw (.slice none 0 0),.int .i64 0]) Z4 U U<|fun i6=>z6<|ym<|yi (i:=14) U (by kernel_rfl) (by kernel_rfl)<|y1 jv U U U U U U .t1 U<|z6<|yi (i:=15) U (by kernel_rfl) (by kernel_rfl)<|ab U<|z6<|yo (by kernel_rfl) ?_
    exact ⟨i6,(by repeat (first|with_reducible exact zp _ _|refine zz rfl ?_)),cV,aD,trivial⟩
   ·refine y6 (cs:=[.int .i64 0,.int .i64 0,.raw (.slice none 0 0),.int .i64 0]) Z4 U U<|fun i6=>z6<|ba 9 U<|ze (uK hc hm) U<|z6<|ak 10 U (Ft U)<|ak 11 U (yz (v:=.agg _) U U)<|yx (i:=12) U (by kernel_rfl) (by kernel_rfl) (by kernel_rfl) (by kernel_rfl) (D9 U U)<|ym<|yi (i:=14) U (by kernel_rfl) (by kernel_rfl)<|y1 jv U U U U U U .t1 U<|z6<|yi (i:=15) U (by kernel_rfl) (by kernel_rfl)<|ab U<|z6<|yo (by kernel_rfl) ?_
    exact ⟨i6,(by repeat (first|with_reducible exact zp _ _|refine zz rfl ?_)),cV,aD,trivial⟩
  ·rintro i6 _
   refine zd<|zd<|ya (γ:=Unit) [0,1,2,6,7] (fun u=>[]) (fun u=>[(iq,.cells 256 (B5 f bs jo q.out.length)),(i6,.cells 54 [.int .i64 0,.int .i64 0,.raw (.slice none 0 0),.int .i64 0]),(0,ln sM bs es1),(jo,.grow 3 183 (q.out.map ee).flatten)]) (fun u=>True) ?_ (fun _ _ h=>h) ?_
   ·refine zw (fun j=>false) (by kernel_rfl) U (zh (.r (.rest _)))<|ak 0 U (ef U)<|ak 1 U (yb U)<|ak 2 U (zn Y6 U sizeOf254 (by decide) U U)<|ak 3 U (zt (c:=dw _) isAgg254 U ⟨_,.head⟩ U)<|ak 4 U (dq U)<|ak 5 U (l6 U)<|ak 6 U (y5 (cps:=[(0,[_]),(1,[_])]) (rs:=[_,_]) B6 U U U)<|yq (i:=7) (j:=9) U U (by kernel_rfl) ?_ ?_
    ·refine za (Gv.lookup1ST (k:=(c,is)) jG Ye Zs U U ⟨_,.t1⟩)<|z6<|ak 8 U (CA U U)<|ba 9 U<|az.mapEntryS (k:=(c,is)) jG Ye Zs U U (fun _=>.t1)<|fun s30=>z6<|ak 10 U (D8 U U)<|ba 11 U<|az.entryStoreS U U U .t1<|z6<|bY ?_
     exact ⟨(),(by repeat (first|with_reducible exact zp _ _|refine zz rfl ?_)),trivial,⟨_,(.refl _),by rw[k7,hes1];rfl⟩,trivial⟩
    ·refine az.mapEntryS (k:=(c,is)) jG Ye Zs U U (fun _=>.t1)<|fun s30=>z6<|ak 10 U (D8 U U)<|ba 7 U<|za (Gv.lookup1SE (k:=(c,is)) jG Ye Zs U U ⟨_,.t1⟩)<|z6<|ak 8 U (CA U U)<|ba 11 U<|az.entryStoreS U U U .t1<|z6<|bY ?_
     exact ⟨(),(by repeat (first|with_reducible exact zp _ _|refine zz rfl ?_)),trivial,⟨_,(.refl _),by rw[k7,hes1];rfl⟩,trivial⟩
   ·rintro u _
    refine ae<|aj U<|aB U<|aj U<|z7 U U U<|z7 U U U<|z7 U U U<|z7 U U U<|z7 U U U<|z7 U U U<|z7 U U U<|z7 U U U<|z7 U U U<|aq U U U<|z6 ?_
    rcases hk:q.seen.contains (c,is) with _|_
    ·rw[if_neg (show ¬(false=true) by decide)]
     refine yl U U<|zi<|yh ?_
     exact ⟨(jo,es1),rfl,⟨_,.keep (.drop (.refl _)),rfl⟩,(hnew hk).1,by have:=(hnew hk).2;simp;omega⟩
    ·rw[if_pos (show true=true from rfl)]
     refine yl U U<|zi<|yh ?_
     exact ⟨(jo,es1),rfl,⟨_,.keep (.drop (.refl _)),rfl⟩,(hold hk).1,by have:=(hold hk).2;dsimp only;omega⟩
 ·obtain ⟨hF,_,_⟩:=hR.madeF hm
  have a0:∀{k:Int},x.op=k→0<([0,1,2,2,2,2,2,2,2,2,1,2,1,2,3,1,0,1,2,1,1,2,2,2,1,2,2][k.toNat]?).getD 0→(aZ f (bc x)=true∧mC f (bc x)<n)∧0<x.args.length:=fun e h=>by
   have hl:0<x.args.length:=by rw[hF.cnt e];exact h
   have:=hR.rk0 hm hl
   exact ⟨⟨lR (hF.a0 hl),by omega⟩,hl⟩
  have a1:∀{k:Int},x.op=k→1<([0,1,2,2,2,2,2,2,2,2,1,2,1,2,3,1,0,1,2,1,1,2,2,2,1,2,2][k.toNat]?).getD 0→(aZ f (bC x)=true∧mC f (bC x)<n)∧1<x.args.length:=fun e h=>by
   have hl:1<x.args.length:=by rw[hF.cnt e];exact h
   have:=hR.rk1 hm hl
   exact ⟨⟨lR (hF.a1 hl),by omega⟩,hl⟩
  refine zd<|ya (γ:=Nat) [0,1,2] (fun g=>[(6,.po g 0),(7,.bool true)]) (fun g=>[(iq,.cells 256 (B5 f bs jo q.out.length)),(g,.cells 54 (aP x)),(0,ln sM bs es),(jo,.grow 3 183 (q.out.map ee).flatten)]) (fun g=>True) ?_ (fun _ _ h=>h) ?_
  ·refine zw (fun j=>Nat.beq j 14) (by kernel_rfl) U (zh (.r (.rest _)))<|ak 0 U (ef U)<|ak 1 U (yb U)<|ak 2 U (zn Y6 U jf (by decide) U U)<|ak 3 U (Gv.loadAC (l:=[_,_,_]) ju jf U ⟨_,.head⟩ U U)<|ak 4 U (ef U)<|ak 5 U (yb U)<|ak 6 U (zn Y6 U Yi (by decide) U U)<|ak 7 U (zt (c:=.fro _ _) X5 U ⟨_,.head⟩ U)<|ak 8 U (dq U)<|yq (i:=9) (j:=13) U U (by kernel_rfl) ?_ ?_
   ·refine ze (uL hc hm) U<|z6<|ak 10 U (Ft U)<|ak 11 U (yz (v:=.agg _) U U)<|yx (i:=12) U (by kernel_rfl) (by kernel_rfl) (by kernel_rfl) (by kernel_rfl) (D9 U U)<|ba 13 U<|y6 (cs:=[.int .i64 0,.int .i64 0,.raw (.slice none 0 0),.int .i64 0]) Z4 U U<|fun i6=>z6<|ym<|yi (i:=14) U (by kernel_rfl) (by kernel_rfl)<|y1 jv U U U U U U .t1 U<|z6<|yi (i:=15) U (by kernel_rfl) (by kernel_rfl)<|ab U<|z6<|yo (by kernel_rfl) ?_
    exact ⟨i6,(by repeat (first|with_reducible exact zp _ _|refine zz rfl ?_)),cV,aD,trivial⟩
   ·refine y6 (cs:=[.int .i64 0,.int .i64 0,.raw (.slice none 0 0),.int .i64 0]) Z4 U U<|fun i6=>z6<|ba 9 U<|ze (uL hc hm) U<|z6<|ak 10 U (Ft U)<|ak 11 U (yz (v:=.agg _) U U)<|yx (i:=12) U (by kernel_rfl) (by kernel_rfl) (by kernel_rfl) (by kernel_rfl) (D9 U U)<|ym<|yi (i:=14) U (by kernel_rfl) (by kernel_rfl)<|y1 jv U U U U U U .t1 U<|z6<|yi (i:=15) U (by kernel_rfl) (by kernel_rfl)<|ab U<|z6<|yo (by kernel_rfl) ?_
    exact ⟨i6,(by repeat (first|with_reducible exact zp _ _|refine zz rfl ?_)),cV,aD,trivial⟩
  ·rintro i6 _
   refine zd<|zd<|ya (γ:=Unit) [0,1,2,6,7] (fun u=>[]) (fun u=>[(iq,.cells 256 (B5 f bs jo q.out.length)),(i6,.cells 54 (aP x)),(0,ln sM bs es1),(jo,.grow 3 183 (q.out.map ee).flatten)]) (fun u=>True) ?_ (fun _ _ h=>h) ?_
   ·refine zw (fun j=>false) (by kernel_rfl) U (zh (.r (.rest _)))<|ak 0 U (ef U)<|ak 1 U (yb U)<|ak 2 U (zn Y6 U sizeOf254 (by decide) U U)<|ak 3 U (zt (c:=dw _) isAgg254 U ⟨_,.head⟩ U)<|ak 4 U (dq U)<|ak 5 U (l6 U)<|ak 6 U (y5 (cps:=[(0,[_]),(1,[_])]) (rs:=[_,_]) B6 U U U)<|yq (i:=7) (j:=9) U U (by kernel_rfl) ?_ ?_
    ·refine za (Gv.lookup1ST (k:=(c,is)) jG Ye Zs U U ⟨_,.t1⟩)<|z6<|ak 8 U (CA U U)<|ba 9 U<|az.mapEntryS (k:=(c,is)) jG Ye Zs U U (fun _=>.t1)<|fun s30=>z6<|ak 10 U (D8 U U)<|ba 11 U<|az.entryStoreS U U U .t1<|z6<|bY ?_
     exact ⟨(),(by repeat (first|with_reducible exact zp _ _|refine zz rfl ?_)),trivial,⟨_,(.refl _),by rw[k7,hes1];rfl⟩,trivial⟩
    ·refine az.mapEntryS (k:=(c,is)) jG Ye Zs U U (fun _=>.t1)<|fun s30=>z6<|ak 10 U (D8 U U)<|ba 7 U<|za (Gv.lookup1SE (k:=(c,is)) jG Ye Zs U U ⟨_,.t1⟩)<|z6<|ak 8 U (CA U U)<|ba 11 U<|az.entryStoreS U U U .t1<|z6<|bY ?_
     exact ⟨(),(by repeat (first|with_reducible exact zp _ _|refine zz rfl ?_)),trivial,⟨_,(.refl _),by rw[k7,hes1];rfl⟩,trivial⟩
   ·rintro u _
    refine y3 (yf (t:=6) U .t1)<|ae<|aj U<|aB U<|aj U<|z8 U U U<|aE U<|z8 U U U<|aw U<|z8 U U U<|za (zn Y6 U sizeOf254 (by decide) U U)<|z8 U U U<|za (zt (c:=dw _) isAgg254 U ⟨_,.head⟩ U)<|z8 U U U<|aa U<|z8 U U U<|aj U<|z8 U U U<|za (y5 (cps:=[(0,[_]),(1,[_])]) (rs:=[_,_]) B6 U U U)<|z8 U U U<|za (Gv.lookup1ST (k:=(c,is)) jG Ye Zs U U ⟨_,.t1⟩)<|z8 U U U<|bb U U<|au U U U<|z6<|zy U (fun c44=>?_) (fun c44=>?_)
    ·have hk:q.seen.contains (c,is)=true:=hval.2.2.2 (by have:=w4 c44;rw[hg1] at this;omega)
     rw[if_pos hk]
     refine zi<|yh ?_
     exact ⟨(jo,es1),rfl,⟨_,.refl _,rfl⟩,(hold hk).1,by have:=(hold hk).2;dsimp only;omega⟩
    ·have hk:q.seen.contains (c,is)=false:=by
      cases e:q.seen.contains (c,is) with
      |false=>rfl
      |true=>
       have h1:=hval.2.2.1 e
       have:=w5 c44
       rw[hg1] at this;omega
     rw[if_neg (show ¬q.seen.contains (c,is)=true by rw[hk];decide)]
     obtain ⟨hA1,hc1⟩:=hnew hk
     have hl1:(q.seen++[(c,is)]).length=q.seen.length+1:=by simp
     dsimp only
     have two:∀a b m,im f es1 (dS ⟨q.seen++[(c,is)],q.out⟩ a b m)∧fy es1+2*q.seen.length≤fy es+2*(dS ⟨q.seen++[(c,is)],q.out⟩ a b m).seen.length+1:=fun a b m=>by
      have h:=hA1.tell hol a b m
      exact ⟨h.1,by rw[h.2,hc1,hl1];omega⟩
     have one:im f es1 ⟨q.seen++[(c,is)],q.out⟩∧fy es1+2*q.seen.length≤fy es+2*(gq.mk (q.seen++[(c,is)]) q.out).seen.length+1:=⟨hA1,by dsimp only;rw[hc1,hl1];omega⟩
     refine zg<|zj<|ae<|ao j5 U jy U U<|ay Z2 U<|ai U U<|ab U<|z6<|zu U (fun c10=>?_) (fun c10=>?_)
     ·have c10:x.op=10:=c10
      obtain ⟨⟨h1,h2⟩,h3⟩:=a0 c10 (by decide)
      rw[if_pos c10]
      refine aO<|aE U<|ao j5 U j8 U U<|aI j9 U<|za (bh 0 wz j6 U U U (bn h3))<|ay j7 U<|aj U<|aB U<|zr U (zh (.l (.l (.l (.rest _))))) (ih ⟨q.seen++[(c,is)],q.out⟩ es1 jo (bc x) (!is) h1 h2 hA1 (by dsimp only;rw[hc1,hl1];omega)) ?_
      rintro r56 O56 ⟨⟨j1,e1⟩,rfl,rfl,hB1,hB2⟩
      refine z6<|yh ?_
      exact ⟨(j1,e1),rfl,⟨_,.refl _,rfl⟩,hB1,by dsimp only at hB2 ⊢;rw[hc1,hl1] at hB2;omega⟩
     ·rw[if_neg (show ¬x.op=10 from c10)]
      refine ae<|ao j5 U jy U U<|ay Z2 U<|ai U U<|ab U<|z6<|zu U (fun c1=>?_) (fun c1=>?_)
      ·have c1:x.op=1:=c1
       obtain ⟨⟨h1,h2⟩,h3⟩:=a0 c1 (by decide)
       rw[if_pos c1]
       refine aO<|aE U<|ao j5 U j8 U U<|aI j9 U<|za (bh 0 wz j6 U U U (bn h3))<|ay j7 U<|aj U<|zr U (zh (.l (.l (.l (.rest _))))) (ih ⟨q.seen++[(c,is)],q.out⟩ es1 jo (bc x) is h1 h2 hA1 (by dsimp only;rw[hc1,hl1];omega)) ?_
       rintro r67 O67 ⟨⟨j1,e1⟩,rfl,rfl,hB1,hB2⟩
       refine z6<|yh ?_
       exact ⟨(j1,e1),rfl,⟨_,.refl _,rfl⟩,hB1,by dsimp only at hB2 ⊢;rw[hc1,hl1] at hB2;omega⟩
      ·rw[if_neg (show ¬x.op=1 from c1)]
       refine ae<|ao j5 U jy U U<|ay Z2 U<|ai U U<|aj U<|zo (s:=72) U (fun s11=>?_) (fun s11=>?_)
       ·have c11:x.op=11:=w4 s11
        obtain ⟨⟨h1,h2⟩,h3⟩:=a0 c11 (by decide)
        obtain ⟨⟨g1,g2⟩,g3⟩:=a1 c11 (by decide)
        rw[if_pos c11]
        refine z8 U U s11<|aj U<|aq U s11 U<|ab U<|z6<|zy U (fun ci=>?_) (fun ci=>?_)
        ·have ci:is=true:=ci
         rw[if_pos ci]
         refine ae<|aE U<|ao j5 U j8 U U<|aI j9 U<|za (bh 0 wz j6 U U U (bn h3))<|ay j7 U<|zr U (zh (.l (.l (.l (.rest _))))) (ih ⟨q.seen++[(c,is)],q.out⟩ es1 jo (bc x) true h1 h2 hA1 (by dsimp only;rw[hc1,hl1];omega)) ?_
         rintro r80 O80 ⟨⟨j1,e1⟩,rfl,rfl,hB1,hB2⟩
         refine z6 ?_
         dsimp only at hB2
         rw[hc1,hl1] at hB2
         refine aO<|aE U<|ao j5 U j8 U U<|aI j9 U<|za (bh 1 wz j6 U U U (bw g3))<|ay j7 U<|zr U (zh (.l (.l (.l (.rest _))))) (ih _ e1 j1 (bC x) true g1 g2 hB1 (by omega)) ?_
         rintro r86 O86 ⟨⟨j2,e2⟩,rfl,rfl,hD1,hD2⟩
         refine z6<|yh ?_
         exact ⟨(j2,e2),rfl,⟨_,.refl _,rfl⟩,hD1,by dsimp only at hD2 ⊢;omega⟩
        ·rw[if_neg (show ¬is=true by rw[show is=false from ci];decide)]
         refine ae<|ao j5 U jy U U<|ay Z2 U<|ai U U<|aj U<|zo (s:=91) U (fun d8=>?_) (fun d8=>?_)
         ·exfalso;rw[c11] at d8;exact absurd d8 (by decide)
         ·refine z7 U U d8<|au U d8 U<|ab U<|z6<|yg U U<|ae<|ao j5 U jy U U<|ay Z2 U<|ai U U<|ab U<|z6<|yg U (qy (by rw[c11];decide))<|ae<|ao j5 U jy U U<|ay Z2 U<|ai U U<|aj U<|zo (s:=122) U (fun d9=>?_) (fun d9=>?_)
          ·exfalso;rw[c11] at d9;exact absurd d9 (by decide)
          ·refine z7 U U d9<|au U d9 U<|ab U<|z6<|yg U U<|ae<|ao j5 U jy U U<|ay Z2 U<|ai U U<|ab U<|z6<|yg U (qy (by rw[c11];decide))<|ae<|ao j5 U jy U U<|ay Z2 U<|ai U U<|aj U<|zo (s:=153) U (fun d7=>?_) (fun d7=>?_)
           ·exfalso;rw[c11] at d7;exact absurd d7 (by decide)
           ·refine z7 U U d7<|au U d7 U<|ab U<|z6<|yg U U<|zg<|yh ?_
            exact ⟨(jo,es1),rfl,⟨_,.refl _,rfl⟩,one⟩
       ·have c11:¬x.op=11:=w5 s11
        rw[if_neg c11]
        refine z7 U U s11<|au U s11 U<|ab U<|z6<|yg U U<|ae<|ao j5 U jy U U<|ay Z2 U<|ai U U<|aj U<|zo (s:=91) U (fun s8=>?_) (fun s8=>?_)
        ·have c8:x.op=8:=w4 s8
         obtain ⟨_,h3⟩:=a0 c8 (by decide)
         obtain ⟨_,g3⟩:=a1 c8 (by decide)
         rw[if_pos c8]
         refine z8 U U s8<|aj U<|aq U s8 U<|ab U<|z6<|zy U (fun ci=>?_) (fun ci=>?_)
         ·rw[if_pos (show is=true from ci)]
          refine zw (fun j=>false) (by kernel_rfl) U (zh (.rest _))<|ak 0 U (ef U)<|ak 1 U (bx j5 U j8 U U)<|ak 2 U (dx j9 U)<|ak 3 U (bh 0 wz j6 U U U (bn h3))<|ak 4 U (b7 j7 U)<|ak 5 U (bx j5 U j8 U U)<|ak 6 U (dx j9 U)<|ak 7 U (bh 1 wz j6 U U U (bw g3))<|ak 8 U (b7 j7 U)<|ba 9 U<|zr U (zh (.l (.l (.l (.rest _))))) (tell es1 (c,is) (bc x) (bC x) 0) ?_
          rintro r103 O103 ⟨j1,rfl,rfl,_⟩
          refine z6<|bY<|yh ?_
          exact ⟨(j1,es1),rfl,⟨_,.refl _,rfl⟩,two _ _ _⟩
         ·rw[if_neg (show ¬is=true by rw[show is=false from ci];decide)]
          refine ae<|ao j5 U jy U U<|ay Z2 U<|ai U U<|ab U<|z6<|yl U (qx c8)<|zw (fun j=>false) (by kernel_rfl) U (zh (.rest _))<|ak 0 U (ef U)<|ak 1 U (bx j5 U j8 U U)<|ak 2 U (dx j9 U)<|ak 3 U (bh 1 wz j6 U U U (bw g3))<|ak 4 U (b7 j7 U)<|ak 5 U (bx j5 U j8 U U)<|ak 6 U (dx j9 U)<|ak 7 U (bh 0 wz j6 U U U (bn h3))<|ak 8 U (b7 j7 U)<|ba 9 U<|zr U (zh (.l (.l (.l (.rest _))))) (tell es1 (c,is) (bC x) (bc x) 1) ?_
          rintro r117 O117 ⟨j1,rfl,rfl,_⟩
          refine z6<|bY<|yh ?_
          exact ⟨(j1,es1),rfl,⟨_,.refl _,rfl⟩,two _ _ _⟩
        ·have c8:¬x.op=8:=w5 s8
         rw[if_neg c8]
         refine z7 U U s8<|au U s8 U<|ab U<|z6<|yg U U<|ae<|ao j5 U jy U U<|ay Z2 U<|ai U U<|ab U<|z6<|yg U (qy c8)<|ae<|ao j5 U jy U U<|ay Z2 U<|ai U U<|aj U<|zo (s:=122) U (fun s9=>?_) (fun s9=>?_)
         ·have c9:x.op=9:=w4 s9
          obtain ⟨_,h3⟩:=a0 c9 (by decide)
          obtain ⟨_,g3⟩:=a1 c9 (by decide)
          rw[if_pos c9]
          refine z8 U U s9<|aj U<|aq U s9 U<|ab U<|z6<|zy U (fun ci=>?_) (fun ci=>?_)
          ·rw[if_pos (show is=true from ci)]
           refine zw (fun j=>false) (by kernel_rfl) U (zh (.rest _))<|ak 0 U (ef U)<|ak 1 U (bx j5 U j8 U U)<|ak 2 U (dx j9 U)<|ak 3 U (bh 0 wz j6 U U U (bn h3))<|ak 4 U (b7 j7 U)<|ak 5 U (bx j5 U j8 U U)<|ak 6 U (dx j9 U)<|ak 7 U (bh 1 wz j6 U U U (bw g3))<|ak 8 U (b7 j7 U)<|ba 9 U<|zr U (zh (.l (.l (.l (.rest _))))) (tell es1 (c,is) (bc x) (bC x) 1) ?_
           rintro r134 O134 ⟨j1,rfl,rfl,_⟩
           refine z6<|bY<|yh ?_
           exact ⟨(j1,es1),rfl,⟨_,.refl _,rfl⟩,two _ _ _⟩
          ·rw[if_neg (show ¬is=true by rw[show is=false from ci];decide)]
           refine ae<|ao j5 U jy U U<|ay Z2 U<|ai U U<|ab U<|z6<|yl U (qx c9)<|zw (fun j=>false) (by kernel_rfl) U (zh (.rest _))<|ak 0 U (ef U)<|ak 1 U (bx j5 U j8 U U)<|ak 2 U (dx j9 U)<|ak 3 U (bh 1 wz j6 U U U (bw g3))<|ak 4 U (b7 j7 U)<|ak 5 U (bx j5 U j8 U U)<|ak 6 U (dx j9 U)<|ak 7 U (bh 0 wz j6 U U U (bn h3))<|ak 8 U (b7 j7 U)<|ba 9 U<|zr U (zh (.l (.l (.l (.rest _))))) (tell es1 (c,is) (bC x) (bc x) 0) ?_
           rintro r148 O148 ⟨j1,rfl,rfl,_⟩
           refine z6<|bY<|yh ?_
           exact ⟨(j1,es1),rfl,⟨_,.refl _,rfl⟩,two _ _ _⟩
         ·have c9:¬x.op=9:=w5 s9
          rw[if_neg c9]
          refine z7 U U s9<|au U s9 U<|ab U<|z6<|yg U U<|ae<|ao j5 U jy U U<|ay Z2 U<|ai U U<|ab U<|z6<|yg U (qy c9)<|ae<|ao j5 U jy U U<|ay Z2 U<|ai U U<|aj U<|zo (s:=153) U (fun s7=>?_) (fun s7=>?_)
          ·have c7:x.op=7:=w4 s7
           obtain ⟨_,h3⟩:=a0 c7 (by decide)
           obtain ⟨_,g3⟩:=a1 c7 (by decide)
           rw[if_pos c7]
           refine z8 U U s7<|aj U<|aq U s7 U<|ab U<|z6<|zy U (fun ci=>?_) (fun ci=>?_)
           ·rw[if_pos (show is=true from ci)]
            refine zw (fun j=>false) (by kernel_rfl) U (zh (.rest _))<|ak 0 U (ef U)<|ak 1 U (bx j5 U j8 U U)<|ak 2 U (dx j9 U)<|ak 3 U (bh 0 wz j6 U U U (bn h3))<|ak 4 U (b7 j7 U)<|ak 5 U (bx j5 U j8 U U)<|ak 6 U (dx j9 U)<|ak 7 U (bh 1 wz j6 U U U (bw g3))<|ak 8 U (b7 j7 U)<|ba 9 U<|zr U (zh (.l (.l (.l (.rest _))))) (tell es1 (c,is) (bc x) (bC x) 2) ?_
            rintro r165 O165 ⟨j1,rfl,rfl,_⟩
            refine z6<|bY<|yh ?_
            exact ⟨(j1,es1),rfl,⟨_,.refl _,rfl⟩,two _ _ _⟩
           ·rw[if_neg (show ¬is=true by rw[show is=false from ci];decide)]
            refine zg<|yh ?_
            exact ⟨(jo,es1),rfl,⟨_,.refl _,rfl⟩,one⟩
          ·have c7:¬x.op=7:=w5 s7
           rw[if_neg c7]
           refine z7 U U s7<|au U s7 U<|ab U<|z6<|yg U U<|zg<|yh ?_
           exact ⟨(jo,es1),rfl,⟨_,.refl _,rfl⟩,one⟩
theorem xA (f:ad) (hR:bE f) (hv:f.vars.length≤1000) (iq bs:Nat):∀n,B7 E f iq bs n
 |0=>fun _ _ _ _ _ _ h=>by omega
 |n+1=>B8 f hR hv iq bs n (xA f hR hv iq bs n)
end Go.Proofs.YtdilpodccjlkgaaGreatDoor
