/- The tree of what is above what: made, and asked. Of programs that are little. -/
import Derived.Test.YtbbonnfjealmpaaGreatDoorZj
set_option linter.unusedVariables false
set_option linter.unusedSimpArgs false
set_option linter.unusedSectionVars false
namespace Go.Proofs.YtbbonnfjealmpaaGreatDoor
open Go.Proofs.Tryz
open Go.Proofs
variable {E:World}
set_option maxRecDepth 20000
def rX (f:ab) (x y:AV):AV:=.pf [.fro 1 ((bv (ah f) f.blocks.length).map bO),.fro 1 ((b9 (ah f) f.blocks.length).map bO),x,y]
theorem uD (lev:List Int) (b:Int) (x0 x2 x3:AV) (hl:lev.length≤1000):aP prog E 168 [.pf [x0,.fro 1 (lev.map bO),x2,x3],.int .i64 b] (.bool (decide (gi lev b≠-1))):=by
 refine zp func168 U (by decide) U<|ae<|ad U<|z2<|ae<|z8 (tv U)<|z8 (Gv.neqPf underlying143 type193 U)<|aq U<|z7 U U U<|aa U<|z7 U U U<|z8 (q9 U U)<|au U U U<|aq U<|zt (s:=11) U (fun c0=>?_) (fun c0=>?_)
 ·have h0:0≤b:=by simpa using c0
  refine z7 U U c0<|aa U<|z7 U U c0<|z8 (tv U)<|z7 U U c0<|z8 (qg U)<|z7 U U c0<|ak Zi U jh U U<|z7 U U c0<|aI jx U<|z7 U U c0<|aj j7 U<|z7 U U c0<|ap U U<|au U c0 U<|aq U<|zt (s:=20) U (fun c1=>?_) (fun c1=>?_)
  ·have h1:b<lev.length:=by simpa using c1
   have hg:lev[b.toNat]?=some (gi lev b):=gD h0 (by omega)
   refine z7 U U c1<|z8 (tv U)<|z7 U U c1<|z8 (qg U)<|z7 U U c1<|ak Zi U jh U U<|z7 U U c1<|aI jx U<|z7 U U c1<|aa U<|z7 U U c1<|z8 (bB b.toNat j7 j9 U U (by omega) hg)<|z7 U U c1<|aA jg U<|z7 U U c1<|aO U U<|au U c1 U<|ad U<|z2<|zg<|zm (x:=.bool _) U ?_
   simp
  ·have h1:¬b<lev.length:=by simpa using c1
   refine z6 U U c1<|z6 U U c1<|z6 U U c1<|z6 U U c1<|z6 U U c1<|z6 U U c1<|z6 U U c1<|z6 U U c1<|aw U c1 U<|ad U<|z2<|zg<|zm (x:=.bool _) U ?_
   rw[Ay (.inr (by omega))];rfl
 ·have h0:¬0≤b:=by simpa using c0
  refine z6 U U c0<|z6 U U c0<|z6 U U c0<|z6 U U c0<|z6 U U c0<|z6 U U c0<|z6 U U c0<|aw U c0 U<|aq U<|z6 U U U<|z6 U U U<|z6 U U U<|z6 U U U<|z6 U U U<|z6 U U U<|z6 U U U<|z6 U U U<|aw U U U<|ad U<|z2<|zg<|zm (x:=.bool _) U ?_
  rw[Ay (.inl (by omega))];rfl
section
variable {S:Int→List Int} {n:Nat} (hG:fP S n)
include hG
theorem Dr {a b:Int} (ha:a∈aH S n) (hb:b∈aH S n) (hlt:gi (b9 S n) a<gi (b9 S n) b) :
  b≠0∧gi (bv S n) b∈aH S n∧gi (b9 S n) b=gi (b9 S n) (gi (bv S n) b)+1∧lS S n a b=lS S n a (gi (bv S n) b):=by
 have hO:=hG.gok.ord
 have hla:=hG.lev_nn ha
 have hl0:gi (b9 S n) 0=0:=hG.lev.zero
 have hb0:b≠0:=fun e=>by rw[e,hl0] at hlt;omega
 obtain ⟨g1,g2⟩:=hG.near_mem hb hb0
 have g3:=hG.lev_near hb hb0
 rw[gJ (hO.nn b hb) hb0]
 refine ⟨hb0,g1,g3,?_⟩
 rw[w8,hG.domB_iff,hG.domB_iff,hG.dom_iff hb,hG.dom_iff g1]
 constructor
 ·intro h
  rcases h.cases' with e|⟨_,_,h3⟩
  ·rw[e] at hlt;omega
  ·exact h3
 ·intro h
  exact .up hb0 (hG.exact.has b hb) h
theorem Fp {a b:Int} (hb:b∈aH S n) (hge:¬gi (b9 S n) a<gi (b9 S n) b):lS S n a b=decide (a=b):=by
 rw[w8,hG.domB_iff,hG.dom_iff hb,wm]
 constructor
 ·intro h
  exact (hG.lev_anc hb h).2.2 (by omega)
 ·rintro rfl;exact .refl _
theorem uE {a b:Int} (h:a ∉ aH S n∨b ∉ aH S n):lS S n a b=false:=by
 rw[Bool.eq_false_iff]
 intro hd
 have hd:=(hG.domB_iff a b).1 hd
 have hb:b∈aH S n:=(hG.gok.ord.mem b).2 hd.1
 have ha:a∈aH S n:=(hG.lev_anc hb ((hG.dom_iff hb).1 hd)).1
 rcases h with h|h
 ·exact h ha
 ·exact h hb
end
theorem Ds (f:ab) (hE:cg f) (hn:f.blocks.length≤1000) (a b:Int) (x y:AV):aP prog E 119 [rX f x y,.int .i64 a,.int .i64 b] (.bool (lS (ah f) f.blocks.length a b)):=by
 have hG:=hE.grph
 have hol:=fZ hG
 have hO:=hG.gok.ord
 have hrng:∀z∈aH (ah f) f.blocks.length,0≤z∧z<f.blocks.length:=fun z hz=>cQ hG.toEOk hz
 have hLl:(b9 (ah f) f.blocks.length).length=f.blocks.length:=hG.lev.len
 have hLg:∀z:Int,0≤z→z<f.blocks.length→(b9 (ah f) f.blocks.length)[z.toNat]?=some (gi (b9 (ah f) f.blocks.length) z):=fun z h1 h2=>gD h1 (by omega)
 have hNg:∀z:Int,0≤z→z<f.blocks.length→(bv (ah f) f.blocks.length)[z.toNat]?=some (gi (bv (ah f) f.blocks.length) z):=fun z h1 h2=>gD h1 (by rw[f5];omega)
 unfold rX
 refine zp func119 U (by decide) U<|ae<|ad U<|z2<|zb<|ae<|z8 (tv U)<|aa U<|ze (uD (b9 (ah f) f.blocks.length) a _ x y (by omega)) U<|aJ U<|aq U<|zt (s:=11) U (fun ca=>?_) (fun ca=>?_)
 ·have ha:a ∉ aH (ah f) f.blocks.length:=by have h0:gi (b9 (ah f) f.blocks.length) a=-1:=(by simpa using ca);exact fun h=>(hG.lev_mem a).2 h h0
  refine z6 U U ca<|z6 U U ca<|z6 U U ca<|z6 U U ca<|au U ca U<|z2<|yr U U<|ae<|ad U<|z2<|zg<|zm (x:=.bool _) U ?_
  rw[uE hG (.inl ha)]
 ·have ha:a∈aH (ah f) f.blocks.length:=by have h0:¬gi (b9 (ah f) f.blocks.length) a=-1:=(by simpa using ca);exact (hG.lev_mem a).1 h0
  refine z7 U U ca<|z8 (tv U)<|z7 U U ca<|aa U<|z7 U U ca<|ze (uD (b9 (ah f) f.blocks.length) b _ x y (by omega)) U<|z7 U U ca<|aJ U<|aw U ca U<|z2<|zw U (fun cb=>?_) (fun cb=>?_)
  ·have hb:b ∉ aH (ah f) f.blocks.length:=by have h0:gi (b9 (ah f) f.blocks.length) b=-1:=(by simpa using cb);exact fun h=>(hG.lev_mem b).2 h h0
   refine ae<|ad U<|z2<|zg<|zm (x:=.bool _) U ?_
   rw[uE hG (.inr hb)]
  ·have hb:b∈aH (ah f) f.blocks.length:=by have h0:¬gi (b9 (ah f) f.blocks.length) b=-1:=(by simpa using cb);exact (hG.lev_mem b).1 h0
   obtain ⟨ha0,han⟩:=hrng a ha
   refine zf<|zb<|zi<|y5 (γ:=Int) [0,1] (fun c=>[(2,.i c)]) (fun c=>[]) (fun c=>c∈aH (ah f) f.blocks.length∧lS (ah f) f.blocks.length a b=lS (ah f) f.blocks.length a c) (fun c=>(gi (b9 (ah f) f.blocks.length) c).toNat) b aL aE (⟨hb,U⟩) ?_
   rintro c ⟨hc,hd⟩
   obtain ⟨hc0,hcn⟩:=hrng c hc
   have hl:=hG.lev_nn hc
   refine zb<|zb<|zr (fun j=>false) (by kernel_rfl) U (zo (.rest _))<|ai 0 U (tv U)<|ai 1 U (qg U)<|ai 2 U (db Zi U jh U U)<|ai 3 U (gd jx U)<|ai 4 U (dx U)<|ai 5 U (bB c.toNat j7 j9 U U (by omega) (hLg c hc0 hcn))<|ai 6 U (dQ jg U)<|ai 7 U (tv U)<|ai 8 U (qg U)<|ai 9 U (db Zi U jh U U)<|ai 10 U (gd jx U)<|ai 11 U (dx U)<|ai 12 U (bB a.toNat j7 j9 U U (by omega) (hLg a ha0 han))<|ai 13 U (dQ jg U)<|ai 14 U (Gv.gtr U U)<|bI<|zw U (fun cc=>?_) (fun cc=>?_)
   ·have hlt:gi (b9 (ah f) f.blocks.length) a<gi (b9 (ah f) f.blocks.length) c:=by simpa using cc
    obtain ⟨s1,s2,s3,s4⟩:=Dr hG ha hc hlt
    refine zf<|zi<|aW<|z8 (tv U)<|z8 (qg U)<|ak Zi U jh U U<|aI jx U<|aa U<|z8 (bB c.toNat j7 j9 U U (by omega) (hNg c hc0 hcn))<|aA jg U<|am U<|z2 ?_
    exact ⟨gi (bv (ah f) f.blocks.length) c,b7,aL,aE,⟨s2,by rw[hd,s4]⟩,by have:=hG.lev_nn s2;omega⟩
   ·have hge:¬gi (b9 (ah f) f.blocks.length) a<gi (b9 (ah f) f.blocks.length) c:=by simpa using cc
    refine y4<|ae<|aa U<|aa U<|ao U U<|ad U<|z2<|zg<|zm (x:=.bool _) U ?_
    rw[hd,Fp hG hc hge]
end Go.Proofs.YtbbonnfjealmpaaGreatDoor
