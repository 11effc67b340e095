/- The tree of what is above what: made, and asked. Of programs that are little. -/
import Derived.Test.YtdilpodccjlkgaaGreatDoorLj
set_option linter.unusedVariables false
set_option linter.unusedSimpArgs false
set_option linter.unusedSectionVars false
namespace Go.Proofs.YtdilpodccjlkgaaGreatDoor
open Go.Proofs.Tryz
open Go.Proofs
variable {E:World}
set_option maxRecDepth 20000
def lA (f:ad) (x y:AV):AV:=.pf [.fro 1 ((bd (ae f) f.blocks.length).map cE),.fro 1 ((bC (ae f) f.blocks.length).map cE),x,y]
theorem lZ (lev:List Int) (b:Int) (x0 x2 x3:AV) (hl:lev.length≤1000):aI prog E 119 [.pf [x0,.fro 1 (lev.map cE),x2,x3],.int .i64 b] (.bool (decide (gi lev b≠-1))):=by
 refine zo func119 Z (by decide) Z<|ah<|ab Z<|z6<|ah<|za (ep Z)<|za (Gv.neqPf underlying68 type130 Z)<|ai Z<|z8 Z Z Z<|aa Z<|z8 Z Z Z<|za (q3 Z Z)<|ar Z Z Z<|ai Z<|zp (s:=11) Z (fun c0=>?_) (fun c0=>?_)
 ·have h0:0≤b:=by simpa using c0
  refine z8 Z Z c0<|aa Z<|z8 Z Z c0<|za (ep Z)<|z8 Z Z c0<|za (yf Z)<|z8 Z Z c0<|aq Z4 Z j5 Z Z<|z8 Z Z c0<|aH j9 Z<|z8 Z Z c0<|ap wx Z<|z8 Z Z c0<|aw Z Z<|ar Z c0 Z<|ai Z<|zp (s:=20) Z (fun c1=>?_) (fun c1=>?_)
  ·have h1:b<lev.length:=by simpa using c1
   have hg:lev[b.toNat]?=some (gi lev b):=fy h0 (by omega)
   refine z8 Z Z c1<|za (ep Z)<|z8 Z Z c1<|za (yf Z)<|z8 Z Z c1<|aq Z4 Z j5 Z Z<|z8 Z Z c1<|aH j9 Z<|z8 Z Z c1<|aa Z<|z8 Z Z c1<|za (bx b.toNat wx wz Z Z (by omega) hg)<|z8 Z Z c1<|ay j6 Z<|z8 Z Z c1<|aL Z Z<|ar Z c1 Z<|ab Z<|z6<|zh<|zk (x:=.bool _) Z ?_
   simp
  ·have h1:¬b<lev.length:=by simpa using c1
   refine z7 Z Z c1<|z7 Z Z c1<|z7 Z Z c1<|z7 Z Z c1<|z7 Z Z c1<|z7 Z Z c1<|z7 Z Z c1<|z7 Z Z c1<|au Z c1 Z<|ab Z<|z6<|zh<|zk (x:=.bool _) Z ?_
   rw[ud (.inr (by omega))];rfl
 ·have h0:¬0≤b:=by simpa using c0
  refine z7 Z Z c0<|z7 Z Z c0<|z7 Z Z c0<|z7 Z Z c0<|z7 Z Z c0<|z7 Z Z c0<|z7 Z Z c0<|au Z c0 Z<|ai Z<|z7 Z Z Z<|z7 Z Z Z<|z7 Z Z Z<|z7 Z Z Z<|z7 Z Z Z<|z7 Z Z Z<|z7 Z Z Z<|z7 Z Z Z<|au Z Z Z<|ab Z<|z6<|zh<|zk (x:=.bool _) Z ?_
  rw[ud (.inl (by omega))];rfl
section
variable {S:Int→List Int} {n:Nat} (hG:fi S n)
include hG
theorem w3 {a b:Int} (ha:a∈aA S n) (hb:b∈aA S n) (hlt:gi (bC S n) a<gi (bC S n) b) :
  b≠0∧gi (bd S n) b∈aA S n∧gi (bC S n) b=gi (bC S n) (gi (bd S n) b)+1∧fj S n a b=fj S n a (gi (bd S n) b):=by
 have hO:=hG.gok.ord
 have hla:=hG.lev_nn ha
 have hl0:gi (bC S n) 0=0:=hG.lev.zero
 have hb0:b≠0:=fun e=>by rw[e,hl0] at hlt;omega
 obtain ⟨g1,g2⟩:=hG.near_mem hb hb0
 have g3:=hG.lev_near hb hb0
 rw[dS (hO.nn b hb) hb0]
 refine ⟨hb0,g1,g3,?_⟩
 rw[qr,hG.domB_iff,hG.domB_iff,hG.dom_iff hb,hG.dom_iff g1]
 constructor
 ·intro h
  rcases h.cases' with e|⟨_,_,h3⟩
  ·rw[e] at hlt;omega
  ·exact h3
 ·intro h
  exact .up hb0 (hG.exact.has b hb) h
theorem zL {a b:Int} (hb:b∈aA S n) (hge:¬gi (bC S n) a<gi (bC S n) b):fj S n a b=decide (a=b):=by
 rw[qr,hG.domB_iff,hG.dom_iff hb,w1]
 constructor
 ·intro h
  exact (hG.lev_anc hb h).2.2 (by omega)
 ·rintro rfl;exact .refl _
theorem pS {a b:Int} (h:a ∉ aA S n∨b ∉ aA S n):fj S n a b=false:=by
 rw[Bool.eq_false_iff]
 intro hd
 have hd:=(hG.domB_iff a b).1 hd
 have hb:b∈aA S n:=(hG.gok.ord.mem b).2 hd.1
 have ha:a∈aA S n:=(hG.lev_anc hb ((hG.dom_iff hb).1 hd)).1
 rcases h with h|h
 ·exact h ha
 ·exact h hb
end
theorem w4 (f:ad) (hE:bE f) (hn:f.blocks.length≤1000) (a b:Int) (x y:AV):aI prog E 161 [lA f x y,.int .i64 a,.int .i64 b] (.bool (fj (ae f) f.blocks.length a b)):=by
 have hG:=hE.grph
 have hol:=eT hG
 have hO:=hG.gok.ord
 have hrng:∀z∈aA (ae f) f.blocks.length,0≤z∧z<f.blocks.length:=fun z hz=>cU hG.toEOk hz
 have hLl:(bC (ae f) f.blocks.length).length=f.blocks.length:=hG.lev.len
 have hLg:∀z:Int,0≤z→z<f.blocks.length→(bC (ae f) f.blocks.length)[z.toNat]?=some (gi (bC (ae f) f.blocks.length) z):=fun z h1 h2=>fy h1 (by omega)
 have hNg:∀z:Int,0≤z→z<f.blocks.length→(bd (ae f) f.blocks.length)[z.toNat]?=some (gi (bd (ae f) f.blocks.length) z):=fun z h1 h2=>fy h1 (by rw[eU];omega)
 unfold lA
 refine zo func161 Z (by decide) Z<|ah<|ab Z<|z6<|zd<|ah<|za (ep Z)<|aa Z<|zf (lZ (bC (ae f) f.blocks.length) a _ x y (by omega)) Z<|aD Z<|ai Z<|zp (s:=11) Z (fun ca=>?_) (fun ca=>?_)
 ·have ha:a ∉ aA (ae f) f.blocks.length:=by have h0:gi (bC (ae f) f.blocks.length) a=-1:=(by simpa using ca);exact fun h=>(hG.lev_mem a).2 h h0
  refine z7 Z Z ca<|z7 Z Z ca<|z7 Z Z ca<|z7 Z Z ca<|ar Z ca Z<|z6<|yl Z Z<|ah<|ab Z<|z6<|zh<|zk (x:=.bool _) Z ?_
  rw[pS hG (.inl ha)]
 ·have ha:a∈aA (ae f) f.blocks.length:=by have h0:¬gi (bC (ae f) f.blocks.length) a=-1:=(by simpa using ca);exact (hG.lev_mem a).1 h0
  refine z8 Z Z ca<|za (ep Z)<|z8 Z Z ca<|aa Z<|z8 Z Z ca<|zf (lZ (bC (ae f) f.blocks.length) b _ x y (by omega)) Z<|z8 Z Z ca<|aD Z<|au Z ca Z<|z6<|zu Z (fun cb=>?_) (fun cb=>?_)
  ·have hb:b ∉ aA (ae f) f.blocks.length:=by have h0:gi (bC (ae f) f.blocks.length) b=-1:=(by simpa using cb);exact fun h=>(hG.lev_mem b).2 h h0
   refine ah<|ab Z<|z6<|zh<|zk (x:=.bool _) Z ?_
   rw[pS hG (.inr hb)]
  ·have hb:b∈aA (ae f) f.blocks.length:=by have h0:¬gi (bC (ae f) f.blocks.length) b=-1:=(by simpa using cb);exact (hG.lev_mem b).1 h0
   obtain ⟨ha0,han⟩:=hrng a ha
   refine zg<|zd<|zj<|y8 (γ:=Int) [0,1] (fun c=>[(2,.int .i64 c)]) (fun c=>[]) (fun c=>c∈aA (ae f) f.blocks.length∧fj (ae f) f.blocks.length a b=fj (ae f) f.blocks.length a c) (fun c=>(gi (bC (ae f) f.blocks.length) c).toNat) b aJ aE (⟨hb,Z⟩) ?_
   rintro c ⟨hc,hd⟩
   obtain ⟨hc0,hcn⟩:=hrng c hc
   have hl:=hG.lev_nn hc
   refine zd<|zd<|zt (fun j=>false) (by kernel_rfl) Z (zm (.rest _))<|aj 0 Z (ep Z)<|aj 1 Z (yf Z)<|aj 2 Z (bK Z4 Z j5 Z Z)<|aj 3 Z (eH j9 Z)<|aj 4 Z (dF Z)<|aj 5 Z (bx c.toNat wx wz Z Z (by omega) (hLg c hc0 hcn))<|aj 6 Z (da j6 Z)<|aj 7 Z (ep Z)<|aj 8 Z (yf Z)<|aj 9 Z (bK Z4 Z j5 Z Z)<|aj 10 Z (eH j9 Z)<|aj 11 Z (dF Z)<|aj 12 Z (bx a.toNat wx wz Z Z (by omega) (hLg a ha0 han))<|aj 13 Z (da j6 Z)<|aj 14 Z (yx Z Z)<|bV<|zu Z (fun cc=>?_) (fun cc=>?_)
   ·have hlt:gi (bC (ae f) f.blocks.length) a<gi (bC (ae f) f.blocks.length) c:=by simpa using cc
    obtain ⟨s1,s2,s3,s4⟩:=w3 hG ha hc hlt
    refine zg<|zj<|aV<|za (ep Z)<|za (yf Z)<|aq Z4 Z j5 Z Z<|aH j9 Z<|aa Z<|za (bx c.toNat wx wz Z Z (by omega) (hNg c hc0 hcn))<|ay j6 Z<|ao Z<|z6 ?_
    exact ⟨gi (bd (ae f) f.blocks.length) c,eZ,aJ,aE,⟨s2,by rw[hd,s4]⟩,by have:=hG.lev_nn s2;omega⟩
   ·have hge:¬gi (bC (ae f) f.blocks.length) a<gi (bC (ae f) f.blocks.length) c:=by simpa using cc
    refine y7<|ah<|aa Z<|aa Z<|ak Z Z<|ab Z<|z6<|zh<|zk (x:=.bool _) Z ?_
    rw[hd,zL hG hc hge]
end Go.Proofs.YtdilpodccjlkgaaGreatDoor
