/- The tree of what is above what: made, and asked. Of programs that are little. -/
import Derived.Test.YtdilpodccjlkgaaGreatDoorZj
set_option linter.unusedVariables false
set_option linter.unusedSimpArgs false
set_option linter.unusedSectionVars false
namespace Go.Proofs.YtdilpodccjlkgaaGreatDoor
open Go.Proofs.Tryz
open Go.Proofs
variable {E:World}
set_option maxRecDepth 20000
def mH (f:ac) (x y:AV):AV:=.pf [.fro 1 ((bh (ah f) f.blocks.length).map cX),.fro 1 ((bO (ah f) f.blocks.length).map cX),x,y]
theorem nj (lev:List Int) (b:Int) (x0 x2 x3:AV) (hl:lev.length≤1000):aM prog E 119 [.pf [x0,.fro 1 (lev.map cX),x2,x3],.int .i64 b] (.bool (decide (gi lev b≠-1))):=by
 refine zp func119 Z (by decide) Z<|ai<|ab Z<|z6<|ai<|za (fc Z)<|za (Gv.neqPf underlying68 type130 Z)<|aj Z<|z8 Z Z Z<|aa Z<|z8 Z Z Z<|za (q5 Z Z)<|aw Z Z Z<|aj Z<|zq (s:=11) Z (fun c0=>?_) (fun c0=>?_)
 ·have h0:0≤b:=by simpa using c0
  refine z8 Z Z c0<|aa Z<|z8 Z Z c0<|za (fc Z)<|z8 Z Z c0<|za (yk Z)<|z8 Z Z c0<|au Zc Z j7 Z Z<|z8 Z Z c0<|aI jf Z<|z8 Z Z c0<|aq wy Z<|z8 Z Z c0<|ay Z Z<|aw Z c0 Z<|aj Z<|zq (s:=20) Z (fun c1=>?_) (fun c1=>?_)
  ·have h1:b<lev.length:=by simpa using c1
   have hg:lev[b.toNat]?=some (gi lev b):=f5 h0 (by omega)
   refine z8 Z Z c1<|za (fc Z)<|z8 Z Z c1<|za (yk Z)<|z8 Z Z c1<|au Zc Z j7 Z Z<|z8 Z Z c1<|aI jf Z<|z8 Z Z c1<|aa Z<|z8 Z Z c1<|za (bv b.toNat wy wz Z Z (by omega) hg)<|z8 Z Z c1<|aA j6 Z<|z8 Z Z c1<|aO Z Z<|aw Z c1 Z<|ab Z<|z6<|zg<|zn (x:=.bool _) Z ?_
   simp
  ·have h1:¬b<lev.length:=by simpa using c1
   refine z7 Z Z c1<|z7 Z Z c1<|z7 Z Z c1<|z7 Z Z c1<|z7 Z Z c1<|z7 Z Z c1<|z7 Z Z c1<|z7 Z Z c1<|ax Z c1 Z<|ab Z<|z6<|zg<|zn (x:=.bool _) Z ?_
   rw[wZ (.inr (by omega))];rfl
 ·have h0:¬0≤b:=by simpa using c0
  refine z7 Z Z c0<|z7 Z Z c0<|z7 Z Z c0<|z7 Z Z c0<|z7 Z Z c0<|z7 Z Z c0<|z7 Z Z c0<|ax Z c0 Z<|aj Z<|z7 Z Z Z<|z7 Z Z Z<|z7 Z Z Z<|z7 Z Z Z<|z7 Z Z Z<|z7 Z Z Z<|z7 Z Z Z<|z7 Z Z Z<|ax Z Z Z<|ab Z<|z6<|zg<|zn (x:=.bool _) Z ?_
  rw[wZ (.inl (by omega))];rfl
section
variable {S:Int→List Int} {n:Nat} (hG:fT S n)
include hG
theorem Bh {a b:Int} (ha:a∈aB S n) (hb:b∈aB S n) (hlt:gi (bO S n) a<gi (bO S n) b) :
  b≠0∧gi (bh S n) b∈aB S n∧gi (bO S n) b=gi (bO S n) (gi (bh S n) b)+1∧fM S n a b=fM S n a (gi (bh S n) b):=by
 have hO:=hG.gok.ord
 have hla:=hG.lev_nn ha
 have hl0:gi (bO S n) 0=0:=hG.lev.zero
 have hb0:b≠0:=fun e=>by rw[e,hl0] at hlt;omega
 obtain ⟨g1,g2⟩:=hG.near_mem hb hb0
 have g3:=hG.lev_near hb hb0
 rw[er (hO.nn b hb) hb0]
 refine ⟨hb0,g1,g3,?_⟩
 rw[w3,hG.domB_iff,hG.domB_iff,hG.dom_iff hb,hG.dom_iff g1]
 constructor
 ·intro h
  rcases h.cases' with e|⟨_,_,h3⟩
  ·rw[e] at hlt;omega
  ·exact h3
 ·intro h
  exact .up hb0 (hG.exact.has b hb) h
theorem C3 {a b:Int} (hb:b∈aB S n) (hge:¬gi (bO S n) a<gi (bO S n) b):fM S n a b=decide (a=b):=by
 rw[w3,hG.domB_iff,hG.dom_iff hb,wg]
 constructor
 ·intro h
  exact (hG.lev_anc hb h).2.2 (by omega)
 ·rintro rfl;exact .refl _
theorem sy {a b:Int} (h:a ∉ aB S n∨b ∉ aB S n):fM S n a b=false:=by
 rw[Bool.eq_false_iff]
 intro hd
 have hd:=(hG.domB_iff a b).1 hd
 have hb:b∈aB S n:=(hG.gok.ord.mem b).2 hd.1
 have ha:a∈aB S n:=(hG.lev_anc hb ((hG.dom_iff hb).1 hd)).1
 rcases h with h|h
 ·exact h ha
 ·exact h hb
end
theorem Bi (f:ac) (hE:bW f) (hn:f.blocks.length≤1000) (a b:Int) (x y:AV):aM prog E 161 [mH f x y,.int .i64 a,.int .i64 b] (.bool (fM (ah f) f.blocks.length a b)):=by
 have hG:=hE.grph
 have hol:=eZ hG
 have hO:=hG.gok.ord
 have hrng:∀z∈aB (ah f) f.blocks.length,0≤z∧z<f.blocks.length:=fun z hz=>de hG.toEOk hz
 have hLl:(bO (ah f) f.blocks.length).length=f.blocks.length:=hG.lev.len
 have hLg:∀z:Int,0≤z→z<f.blocks.length→(bO (ah f) f.blocks.length)[z.toNat]?=some (gi (bO (ah f) f.blocks.length) z):=fun z h1 h2=>f5 h1 (by omega)
 have hNg:∀z:Int,0≤z→z<f.blocks.length→(bh (ah f) f.blocks.length)[z.toNat]?=some (gi (bh (ah f) f.blocks.length) z):=fun z h1 h2=>f5 h1 (by rw[fG];omega)
 unfold mH
 refine zp func161 Z (by decide) Z<|ai<|ab Z<|z6<|zd<|ai<|za (fc Z)<|aa Z<|zh (nj (bO (ah f) f.blocks.length) a _ x y (by omega)) Z<|aC Z<|aj Z<|zq (s:=11) Z (fun ca=>?_) (fun ca=>?_)
 ·have ha:a ∉ aB (ah f) f.blocks.length:=by have h0:gi (bO (ah f) f.blocks.length) a=-1:=(by simpa using ca);exact fun h=>(hG.lev_mem a).2 h h0
  refine z7 Z Z ca<|z7 Z Z ca<|z7 Z Z ca<|z7 Z Z ca<|aw Z ca Z<|z6<|yt Z Z<|ai<|ab Z<|z6<|zg<|zn (x:=.bool _) Z ?_
  rw[sy hG (.inl ha)]
 ·have ha:a∈aB (ah f) f.blocks.length:=by have h0:¬gi (bO (ah f) f.blocks.length) a=-1:=(by simpa using ca);exact (hG.lev_mem a).1 h0
  refine z8 Z Z ca<|za (fc Z)<|z8 Z Z ca<|aa Z<|z8 Z Z ca<|zh (nj (bO (ah f) f.blocks.length) b _ x y (by omega)) Z<|z8 Z Z ca<|aC Z<|ax Z ca Z<|z6<|zy Z (fun cb=>?_) (fun cb=>?_)
  ·have hb:b ∉ aB (ah f) f.blocks.length:=by have h0:gi (bO (ah f) f.blocks.length) b=-1:=(by simpa using cb);exact fun h=>(hG.lev_mem b).2 h h0
   refine ai<|ab Z<|z6<|zg<|zn (x:=.bool _) Z ?_
   rw[sy hG (.inr hb)]
  ·have hb:b∈aB (ah f) f.blocks.length:=by have h0:¬gi (bO (ah f) f.blocks.length) b=-1:=(by simpa using cb);exact (hG.lev_mem b).1 h0
   obtain ⟨ha0,han⟩:=hrng a ha
   refine zi<|zd<|zm<|y8 (γ:=Int) [0,1] (fun c=>[(2,.int .i64 c)]) (fun c=>[]) (fun c=>c∈aB (ah f) f.blocks.length∧fM (ah f) f.blocks.length a b=fM (ah f) f.blocks.length a c) (fun c=>(gi (bO (ah f) f.blocks.length) c).toNat) b aK aH (⟨hb,Z⟩) ?_
   rintro c ⟨hc,hd⟩
   obtain ⟨hc0,hcn⟩:=hrng c hc
   have hl:=hG.lev_nn hc
   refine zd<|zd<|zr (fun j=>false) (by kernel_rfl) Z (zj (.rest _))<|ad 0 Z (fc Z)<|ad 1 Z (yk Z)<|ad 2 Z (bK Zc Z j7 Z Z)<|ad 3 Z (e9 jf Z)<|ad 4 Z (cD Z)<|ad 5 Z (bv c.toNat wy wz Z Z (by omega) (hLg c hc0 hcn))<|ad 6 Z (cQ j6 Z)<|ad 7 Z (fc Z)<|ad 8 Z (yk Z)<|ad 9 Z (bK Zc Z j7 Z Z)<|ad 10 Z (e9 jf Z)<|ad 11 Z (cD Z)<|ad 12 Z (bv a.toNat wy wz Z Z (by omega) (hLg a ha0 han))<|ad 13 Z (cQ j6 Z)<|ad 14 Z (Gv.gtr Z Z)<|bI<|zy Z (fun cc=>?_) (fun cc=>?_)
   ·have hlt:gi (bO (ah f) f.blocks.length) a<gi (bO (ah f) f.blocks.length) c:=by simpa using cc
    obtain ⟨s1,s2,s3,s4⟩:=Bh hG ha hc hlt
    refine zi<|zm<|aW<|za (fc Z)<|za (yk Z)<|au Zc Z j7 Z Z<|aI jf Z<|aa Z<|za (bv c.toNat wy wz Z Z (by omega) (hNg c hc0 hcn))<|aA j6 Z<|ao Z<|z6 ?_
    exact ⟨gi (bh (ah f) f.blocks.length) c,eo,aK,aH,⟨s2,by rw[hd,s4]⟩,by have:=hG.lev_nn s2;omega⟩
   ·have hge:¬gi (bO (ah f) f.blocks.length) a<gi (bO (ah f) f.blocks.length) c:=by simpa using cc
    refine y6<|ai<|aa Z<|aa Z<|ak Z Z<|ab Z<|z6<|zg<|zn (x:=.bool _) Z ?_
    rw[hd,C3 hG hc hge]
end Go.Proofs.YtdilpodccjlkgaaGreatDoor
