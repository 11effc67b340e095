/- The tree of what is above what: made, and asked. Of programs that are little. -/
import Derived.Test.YtdilpodccjlkgaaGreatDoorHj
set_option linter.unusedVariables false
set_option linter.unusedSimpArgs false
set_option linter.unusedSectionVars false
namespace Go.Proofs.YtdilpodccjlkgaaGreatDoor
open Go.Proofs.Tryz
open Go.Proofs
variable {E:World}
set_option maxRecDepth 20000
def mj (f:ad) (x y:AV):AV:=.pf [.fro 1 ((bi (ah f) f.blocks.length).map cW),.fro 1 ((bT (ah f) f.blocks.length).map cW),x,y]
theorem mR (lev:List Int) (b:Int) (x0 x2 x3:AV) (hl:lev.length≤1000):aK prog E 119 [.pf [x0,.fro 1 (lev.map cW),x2,x3],.int .i64 b] (.bool (decide (gi lev b≠-1))):=by
 refine zq func119 U (by decide) U<|ae<|ab U<|z6<|ae<|bg U<|za (Gv.neqPf underlying68 type130 U)<|aj U<|z8 U U U<|aa U<|z8 U U U<|za (yy U U)<|aq U U U<|aj U<|zo (s:=11) U (fun c0=>?_) (fun c0=>?_)
 ·have h0:0≤b:=by simpa using c0
  refine z8 U U c0<|aa U<|z8 U U c0<|bg U<|z8 U U c0<|za (yc U)<|z8 U U c0<|ao Zb U j8 U U<|z8 U U c0<|aI j9 U<|z8 U U c0<|ar wz U<|z8 U U c0<|ax U U<|aq U c0 U<|aj U<|zo (s:=20) U (fun c1=>?_) (fun c1=>?_)
  ·have h1:b<lev.length:=by simpa using c1
   have hg:lev[b.toNat]?=some (gi lev b):=fN h0 (by omega)
   refine z8 U U c1<|bg U<|z8 U U c1<|za (yc U)<|z8 U U c1<|ao Zb U j8 U U<|z8 U U c1<|aI j9 U<|z8 U U c1<|aa U<|z8 U U c1<|za (bh b.toNat wz j6 U U (by omega) hg)<|z8 U U c1<|ay j7 U<|z8 U U c1<|aM U U<|aq U c1 U<|ab U<|z6<|zi<|zm (x:=.bool _) U ?_
   simp
  ·have h1:¬b<lev.length:=by simpa using c1
   refine z7 U U c1<|z7 U U c1<|z7 U U c1<|z7 U U c1<|z7 U U c1<|z7 U U c1<|z7 U U c1<|z7 U U c1<|au U c1 U<|ab U<|z6<|zi<|zm (x:=.bool _) U ?_
   rw[vz (.inr (by omega))];rfl
 ·have h0:¬0≤b:=by simpa using c0
  refine z7 U U c0<|z7 U U c0<|z7 U U c0<|z7 U U c0<|z7 U U c0<|z7 U U c0<|z7 U U c0<|au U c0 U<|aj U<|z7 U U U<|z7 U U U<|z7 U U U<|z7 U U U<|z7 U U U<|z7 U U U<|z7 U U U<|z7 U U U<|au U U U<|ab U<|z6<|zi<|zm (x:=.bool _) U ?_
  rw[vz (.inl (by omega))];rfl
section
variable {S:Int→List Int} {n:Nat} (hG:eV S n)
include hG
theorem zD {a b:Int} (ha:a∈aA S n) (hb:b∈aA S n) (hlt:gi (bT S n) a<gi (bT S n) b) :
  b≠0∧gi (bi S n) b∈aA S n∧gi (bT S n) b=gi (bT S n) (gi (bi S n) b)+1∧er S n a b=er S n a (gi (bi S n) b):=by
 have hO:=hG.gok.ord
 have hla:=hG.lev_nn ha
 have hl0:gi (bT S n) 0=0:=hG.lev.zero
 have hb0:b≠0:=fun e=>by rw[e,hl0] at hlt;omega
 obtain ⟨g1,g2⟩:=hG.near_mem hb hb0
 have g3:=hG.lev_near hb hb0
 rw[ei (hO.nn b hb) hb0]
 refine ⟨hb0,g1,g3,?_⟩
 rw[qt,hG.domB_iff,hG.domB_iff,hG.dom_iff hb,hG.dom_iff g1]
 constructor
 ·intro h
  rcases h.cases' with e|⟨_,_,h3⟩
  ·rw[e] at hlt;omega
  ·exact h3
 ·intro h
  exact .up hb0 (hG.exact.has b hb) h
theorem Bz {a b:Int} (hb:b∈aA S n) (hge:¬gi (bT S n) a<gi (bT S n) b):er S n a b=decide (a=b):=by
 rw[qt,hG.domB_iff,hG.dom_iff hb,w6]
 constructor
 ·intro h
  exact (hG.lev_anc hb h).2.2 (by omega)
 ·rintro rfl;exact .refl _
theorem rB {a b:Int} (h:a ∉ aA S n∨b ∉ aA S n):er S n a b=false:=by
 rw[Bool.eq_false_iff]
 intro hd
 have hd:=(hG.domB_iff a b).1 hd
 have hb:b∈aA S n:=(hG.gok.ord.mem b).2 hd.1
 have ha:a∈aA S n:=(hG.lev_anc hb ((hG.dom_iff hb).1 hd)).1
 rcases h with h|h
 ·exact h ha
 ·exact h hb
end
theorem zE (f:ad) (hE:bV f) (hn:f.blocks.length≤1000) (a b:Int) (x y:AV):aK prog E 161 [mj f x y,.int .i64 a,.int .i64 b] (.bool (er (ah f) f.blocks.length a b)):=by
 have hG:=hE.grph
 have hol:=fg hG
 have hO:=hG.gok.ord
 have hrng:∀z∈aA (ah f) f.blocks.length,0≤z∧z<f.blocks.length:=fun z hz=>b3 hG.toEOk hz
 have hLl:(bT (ah f) f.blocks.length).length=f.blocks.length:=hG.lev.len
 have hLg:∀z:Int,0≤z→z<f.blocks.length→(bT (ah f) f.blocks.length)[z.toNat]?=some (gi (bT (ah f) f.blocks.length) z):=fun z h1 h2=>fN h1 (by omega)
 have hNg:∀z:Int,0≤z→z<f.blocks.length→(bi (ah f) f.blocks.length)[z.toNat]?=some (gi (bi (ah f) f.blocks.length) z):=fun z h1 h2=>fN h1 (by rw[fi];omega)
 unfold mj
 refine zq func161 U (by decide) U<|ae<|ab U<|z6<|zd<|ae<|bg U<|aa U<|ze (mR (bT (ah f) f.blocks.length) a _ x y (by omega)) U<|aB U<|aj U<|zo (s:=11) U (fun ca=>?_) (fun ca=>?_)
 ·have ha:a ∉ aA (ah f) f.blocks.length:=by have h0:gi (bT (ah f) f.blocks.length) a=-1:=(by simpa using ca);exact fun h=>(hG.lev_mem a).2 h h0
  refine z7 U U ca<|z7 U U ca<|z7 U U ca<|z7 U U ca<|aq U ca U<|z6<|yl U U<|ae<|ab U<|z6<|zi<|zm (x:=.bool _) U ?_
  rw[rB hG (.inl ha)]
 ·have ha:a∈aA (ah f) f.blocks.length:=by have h0:¬gi (bT (ah f) f.blocks.length) a=-1:=(by simpa using ca);exact (hG.lev_mem a).1 h0
  refine z8 U U ca<|bg U<|z8 U U ca<|aa U<|z8 U U ca<|ze (mR (bT (ah f) f.blocks.length) b _ x y (by omega)) U<|z8 U U ca<|aB U<|au U ca U<|z6<|zy U (fun cb=>?_) (fun cb=>?_)
  ·have hb:b ∉ aA (ah f) f.blocks.length:=by have h0:gi (bT (ah f) f.blocks.length) b=-1:=(by simpa using cb);exact fun h=>(hG.lev_mem b).2 h h0
   refine ae<|ab U<|z6<|zi<|zm (x:=.bool _) U ?_
   rw[rB hG (.inr hb)]
  ·have hb:b∈aA (ah f) f.blocks.length:=by have h0:¬gi (bT (ah f) f.blocks.length) b=-1:=(by simpa using cb);exact (hG.lev_mem b).1 h0
   obtain ⟨ha0,han⟩:=hrng a ha
   refine zg<|zd<|zj<|y8 (γ:=Int) [0,1] (fun c=>[(2,.int .i64 c)]) (fun c=>[]) (fun c=>c∈aA (ah f) f.blocks.length∧er (ah f) f.blocks.length a b=er (ah f) f.blocks.length a c) (fun c=>(gi (bT (ah f) f.blocks.length) c).toNat) b aH aD (⟨hb,U⟩) ?_
   rintro c ⟨hc,hd⟩
   obtain ⟨hc0,hcn⟩:=hrng c hc
   have hl:=hG.lev_nn hc
   refine zd<|zd<|zw (fun j=>false) (by kernel_rfl) U (zh (.rest _))<|ak 0 U (gD U)<|ak 1 U (yc U)<|ak 2 U (bx Zb U j8 U U)<|ak 3 U (dx j9 U)<|ak 4 U (dq U)<|ak 5 U (bh c.toNat wz j6 U U (by omega) (hLg c hc0 hcn))<|ak 6 U (b7 j7 U)<|ak 7 U (gD U)<|ak 8 U (yc U)<|ak 9 U (bx Zb U j8 U U)<|ak 10 U (dx j9 U)<|ak 11 U (dq U)<|ak 12 U (bh a.toNat wz j6 U U (by omega) (hLg a ha0 han))<|ak 13 U (b7 j7 U)<|ak 14 U (Gv.gtr U U)<|bY<|zy U (fun cc=>?_) (fun cc=>?_)
   ·have hlt:gi (bT (ah f) f.blocks.length) a<gi (bT (ah f) f.blocks.length) c:=by simpa using cc
    obtain ⟨s1,s2,s3,s4⟩:=zD hG ha hc hlt
    refine zg<|zj<|aO<|bg U<|za (yc U)<|ao Zb U j8 U U<|aI j9 U<|aa U<|za (bh c.toNat wz j6 U U (by omega) (hNg c hc0 hcn))<|ay j7 U<|ap U<|z6 ?_
    exact ⟨gi (bi (ah f) f.blocks.length) c,cV,aH,aD,⟨s2,by rw[hd,s4]⟩,by have:=hG.lev_nn s2;omega⟩
   ·have hge:¬gi (bT (ah f) f.blocks.length) a<gi (bT (ah f) f.blocks.length) c:=by simpa using cc
    refine y7<|ae<|aa U<|aa U<|ai U U<|ab U<|z6<|zi<|zm (x:=.bool _) U ?_
    rw[hd,Bz hG hc hge]
end Go.Proofs.YtdilpodccjlkgaaGreatDoor
