/- What is alike under other numbers is typed as well. Of typed programs. -/
import Derived.Test.YtjpnhkmfhlnpcaaGreatDoorZg
import Derived.Test.YtjpnhkmfhlnpcaaGreatDoorZe
import Derived.Test.YtjpnhkmfhlnpcaaGreatDoorZa
import Derived.Test.YtjpnhkmfhlnpcaaGreatDoorZc
import Derived.Test.YtjpnhkmfhlnpcaaGreatDoorZd
set_option linter.unusedVariables false
set_option linter.unusedSimpArgs false
set_option linter.unusedSectionVars false
namespace Go.Proofs.YtjpnhkmfhlnpcaaGreatDoor
section
open Go.Proofs.Tryz
open Go.Proofs Go.Lib Go.Shelf Go.RowKit
set_option maxRecDepth 20000
variable {E:World}
theorem nw {p:bu→Bool} {fn:FuncId} {c:List AV} (xs:List bu) (hl:xs.length≤281474976710656) (hp:∀x∈xs,aZ prog E fn ([.agg (bd x)]++c) (.bool (p x))) :
  aZ prog E 145 [.fro 3 (xs.map bd),.fn fn [] c] (.int .i64 (cY p xs 0)):=by
 refine zo func145 Z (by decide) Z<|ah<|aw Z<|z7<|zb<|ah<|bC Z<|ae jx Z<|aa Z<|z7<|zg<|y7 (γ:=Nat) [0,1,7] (fun k=>[(8,.int .i64 k)]) (fun k=>[]) (fun k=>k≤xs.length∧(xs.take k).all (fun x=>!p x)) (fun k=>xs.length - k) 0 aW aN (⟨qt _,Z⟩) ?_
 rintro k ⟨hk,hall⟩
 refine ah<|ay Z Z<|z7<|zb<|zm Z (fun ck=>?_) (fun ck=>?_)
 ·have hk2:k<xs.length:=by omega
  refine ze<|zb<|zg<|ah<|aa Z<|aw Z<|z7<|ah<|za (yh (v:=.fn _ _ _) Z)<|bC Z<|aa Z<|za (q9 jx Z1 Z Z Z (qq (by omega)))<|ac Y0 Z1 Z Z<|ao.callVP Z (hp _ (qu hk2)) Z<|z7<|zr Z (fun cp=>?_) (fun cp=>?_)
  ·refine ah<|aa Z<|aw Z<|z7<|zf<|zh (x:=.int _ _) Z ?_
   rw[cA p xs k hk hall,List.drop_eq_getElem_cons hk2,cY,if_pos cp]
  ·refine ze<|bi<|aC Z Z<|aa Z<|z7 ?_
   exact ⟨k+1,hZ,aW,aN,⟨hk2,by rw[qr hk2,List.all_append,hall];simp[cp]⟩,by omega⟩
 ·have hkn:k=xs.length:=by omega
  refine zz<|ah<|aw Z<|z7<|zf<|zh (x:=.int _ _) Z ?_
  rw[cA p xs k hk hall,hkn,List.drop_length,cY]
theorem lj {p:bu→Bool} {fn:FuncId} {c:List AV} (xs:List bu) (hl:xs.length≤281474976710656) (hp:∀x∈xs,aZ prog E fn ([.agg (bd x)]++c) (.bool (p x))) :
  aZ prog E 106 [.fro 3 (xs.map bd),.fn fn [] c] (.bool (xs.any p)):=by
 refine zo func106 Z (by decide) Z<|ah<|ad Z<|z7<|ah<|bC Z<|za (yh (v:=.fn _ _ _) Z)<|zi (nw xs hl hp) Z<|za (ql Z Z)<|ad Z<|z7<|zf<|zh (x:=.bool _) Z ?_
 rw[fO]
theorem ny {p:bc→Bool} {fn:FuncId} {c:List AV} (xs:List bc) (hl:xs.length≤281474976710656) (hp:∀x∈xs,aZ prog E fn ([.agg (bz x)]++c) (.bool (p x))) :
  aZ prog E 80 [.fro 4 (xs.map bz),.fn fn [] c] (.int .i64 (cY p xs 0)):=by
 refine zo func80 Z (by decide) Z<|ah<|aw Z<|z7<|zb<|ah<|bC Z<|ae jz Z<|aa Z<|z7<|zg<|y7 (γ:=Nat) [0,1,7] (fun k=>[(8,.int .i64 k)]) (fun k=>[]) (fun k=>k≤xs.length∧(xs.take k).all (fun x=>!p x)) (fun k=>xs.length - k) 0 aW aN (⟨qt _,Z⟩) ?_
 rintro k ⟨hk,hall⟩
 refine ah<|ay Z Z<|z7<|zb<|zm Z (fun ck=>?_) (fun ck=>?_)
 ·have hk2:k<xs.length:=by omega
  refine ze<|zb<|zg<|ah<|aa Z<|aw Z<|z7<|ah<|za (yh (v:=.fn _ _ _) Z)<|bC Z<|aa Z<|za (q9 jz Z5 Z Z Z (qq (by omega)))<|ac Yd Z5 Z Z<|ao.callVP Z (hp _ (qu hk2)) Z<|z7<|zr Z (fun cp=>?_) (fun cp=>?_)
  ·refine ah<|aa Z<|aw Z<|z7<|zf<|zh (x:=.int _ _) Z ?_
   rw[cA p xs k hk hall,List.drop_eq_getElem_cons hk2,cY,if_pos cp]
  ·refine ze<|bi<|aC Z Z<|aa Z<|z7 ?_
   exact ⟨k+1,hZ,aW,aN,⟨hk2,by rw[qr hk2,List.all_append,hall];simp[cp]⟩,by omega⟩
 ·have hkn:k=xs.length:=by omega
  refine zz<|ah<|aw Z<|z7<|zf<|zh (x:=.int _ _) Z ?_
  rw[cA p xs k hk hall,hkn,List.drop_length,cY]
theorem ll {p:bc→Bool} {fn:FuncId} {c:List AV} (xs:List bc) (hl:xs.length≤281474976710656) (hp:∀x∈xs,aZ prog E fn ([.agg (bz x)]++c) (.bool (p x))) :
  aZ prog E 58 [.fro 4 (xs.map bz),.fn fn [] c] (.bool (xs.any p)):=by
 refine zo func58 Z (by decide) Z<|ah<|ad Z<|z7<|ah<|bC Z<|za (yh (v:=.fn _ _ _) Z)<|zi (ny xs hl hp) Z<|za (ql Z Z)<|ad Z<|z7<|zf<|zh (x:=.bool _) Z ?_
 rw[fO]
theorem sr (f:ab) (p:bu) (hp:xf p):aZ prog E 107 ([.agg (bd p)]++[.pf (bQ f)]) (.bool (!jB f p)):=by
 refine zo func107 Z (by decide) Z<|ah<|yb (cs:=_) Z Z Z<|ad Z<|z7<|ah<|ac js jk Z Z<|ac Y0 Z1 Z Z<|zi (D8 _ _ (by assumption)) Z<|aD Z<|ad Z<|z7<|zf<|zh (x:=.bool _) Z ?_
 rfl
theorem su (f:ab) (x:bc) (hx:p6 x.args):aZ prog E 109 ([.agg (bz x)]++[.pf (bQ f)]) (.bool (!cR f x)):=by
 refine zo func109 Z (by decide) Z<|ah<|yb (cs:=_) Z Z Z<|ad Z<|z7<|ah<|ac js jk Z Z<|ac Yd Z5 Z Z<|zi (Ck _ _ (by assumption)) Z<|aD Z<|ad Z<|z7<|zf<|zh (x:=.bool _) Z ?_
 rfl
def f7 (f:ab) (b:aB):Bool:=!(b.phis.any fun p=>!jB f p)&&!(b.insts.any fun x=>!cR f x)&&bj f b.term
theorem oX {f:ab} {b:aB} (h:(b.phis.any fun p=>!jB f p)=true):f7 f b=false:=by unfold f7;rw[h];rfl
theorem oY {f:ab} {b:aB} (h:(b.insts.any fun x=>!cR f x)=true):f7 f b=false:=by unfold f7;rw[h];simp
theorem oZ {f:ab} {b:aB} (h:(!bj f b.term)=true):f7 f b=false:=by unfold f7;rw[show bj f b.term=false by simpa using h];simp
theorem D9 {f:ab} {b:aB} (h1:(b.phis.any fun p=>!jB f p)=false) (h2:(b.insts.any fun x=>!cR f x)=false) (h3:(!bj f b.term)=false):f7 f b=true:=by unfold f7;rw[h1,h2,show bj f b.term=true by simpa using h3];rfl
def eg (f:ab):Bool:=decide (e9 f)&&(f.blocks.all (f7 f)&&decide (eb f.blocks≤1024))
theorem tU (f:ab) (hf:sj f) (h1:f.vars.length≤100000000) (h2:f.blocks.length≤100000000) (hp:f.params.length≤100000000) (hn:lO f) (hL:aj E):aZ prog E 83 [.agg (bQ f)] (.bool (eg f)):=by
 refine zo func83 Z (by decide) Z<|ah<|yb (cs:=_) Z Z Z<|ad Z<|z7<|zb<|ah<|ac js jk Z Z<|zi (tT _ (by omega) (by omega) (by omega) (by assumption) hL) Z<|aD Z<|z7<|zr Z (fun cn=>?_) (fun cn=>?_)
 ·refine ah<|ad Z<|z7<|zf<|zh (x:=.bool _) Z ?_
  exact jb (by unfold eg;rw[show decide (e9 f)=false by simpa using cn];rfl)
 ·have hN:e9 f:=by simpa using cn
  have hbl:=hN.2.2.1.2.2.2.2
  refine ze<|ah<|aw Z<|z7<|zb<|ah<|aq ji Z Z0 Z Z<|aM Z6 Z<|ae jl Z<|aa Z<|z7<|zg<|y7 (γ:=Nat) [1,11,12] (fun k=>[(3,.int .i64 (eb (f.blocks.take k))),(13,.int .i64 k)]) (fun k=>[]) (fun k=>k≤f.blocks.length∧eb (f.blocks.take k)≤k*562949953421312∧(f.blocks.take k).all (f7 f)=true) (fun k=>f.blocks.length - k) 0 eE aN (⟨qt _,qt _,Z⟩) ?_
  rintro k ⟨hk,hsum,hall⟩
  refine ah<|ay Z Z<|z7<|zb<|zm Z (fun ck=>?_) (fun ck=>?_)
  ·have hk2:k<f.blocks.length:=by simp at ck;omega
   obtain ⟨b,hbk⟩:∃b,f.blocks[k]=b:=⟨_,rfl⟩
   have hget:f.blocks[k]?=some b:=by rw[qq hk2,hbk]
   have hb:=hf.2.2.2 b (hbk▸qu hk2)
   have hb1:=hb.1.lt
   have hb2:=hb.2.1.lt
   have hsucc:=oQ f.blocks k hk2
   rw[hbk] at hsucc
   refine ze<|zb<|zg<|ah<|za (cH k jl jv Z Z Z hget)<|ac Zu jv Z Z<|zy (cs:=[.str ⟨#[]⟩,.raw (.slice none 0 0),.raw (.slice none 0 0),.int .i64 0,.int .i64 0,.int .i64 0,.int .i64 0]) Zc Z Z<|fun i5=>zt jv Z Z Z Z Z Z .head Z<|z7<|ah<|aa Z<|za (zc jh Z Zf (by decide) Z Z)<|za (zj (c:=.fro _ _) Zv Z ⟨_,.head⟩ Z)<|ae jx Z<|za (zc jh Z Zi (by decide) Z Z)<|za (zj (c:=.fro _ _) Zy Z ⟨_,.head⟩ Z)<|ae jz Z<|aC Z Z<|aC Z Z<|aw Z<|z7<|ah<|za (zc jh Z Zf (by decide) Z Z)<|za (zj (c:=.fro _ _) Zv Z ⟨_,.head⟩ Z)<|za (Gv.func Z Z)<|zi (lj b.phis (by omega) (fun p hp=>sr f p (hb.2.2.1 p hp))) Z<|ai Z<|zk (s:=30) Z (fun c1=>?_) (fun c1=>?_)
   ·refine z6 Z Z c1<|z6 Z Z c1<|z6 Z Z c1<|z6 Z Z c1<|ap Z c1 Z<|ad Z<|z7<|ah<|ai Z<|ai Z<|z6 Z Z Z<|z6 Z Z Z<|z6 Z Z Z<|z6 Z Z Z<|z6 Z Z Z<|ap Z Z Z<|z7<|yt Z Z<|ah<|ad Z<|z7<|zf<|zh (x:=.bool _) Z ?_
    exact jb (by unfold eg;rw[show f.blocks.all (f7 f)=false from Bool.eq_false_iff.2 (dA hk2 (by rw[hbk];first|exact oX (by assumption)|exact oY (by assumption)|exact oZ (by assumption)))];simp)
   ·refine z8 Z Z c1<|za (zc jh Z Zi (by decide) Z Z)<|z8 Z Z c1<|za (zj (c:=.fro _ _) Zy Z ⟨_,.head⟩ Z)<|z8 Z Z c1<|za (Gv.func Z Z)<|z8 Z Z c1<|zi (ll b.insts (by omega) (fun x hx=>su f x (hb.2.2.2 x hx))) Z<|al Z c1 Z<|ad Z<|z7<|ah<|ai Z<|ai Z<|zk (s:=37) Z (fun c2=>?_) (fun c2=>?_)
    ·refine z6 Z Z c2<|z6 Z Z c2<|z6 Z Z c2<|z6 Z Z c2<|z6 Z Z c2<|ap Z c2 Z<|z7<|yt Z Z<|ah<|ad Z<|z7<|zf<|zh (x:=.bool _) Z ?_
     exact jb (by unfold eg;rw[show f.blocks.all (f7 f)=false from Bool.eq_false_iff.2 (dA hk2 (by rw[hbk];first|exact oX (by assumption)|exact oY (by assumption)|exact oZ (by assumption)))];simp)
    ·refine z8 Z Z c2<|ac js jk Z Z<|z8 Z Z c2<|za (zc jh Z Z4 (by decide) Z Z)<|z8 Z Z c2<|za (Gv.loadAC (l:=[_,_,_,_]) Yo Z4 Z ⟨_,.head⟩ Z Z)<|z8 Z Z c2<|zi (Cl _ _) Z<|z8 Z Z c2<|aD Z<|al Z c2 Z<|z7<|zr Z (fun c3=>?_) (fun c3=>?_)
     ·refine ah<|ad Z<|z7<|zf<|zh (x:=.bool _) Z ?_
      exact jb (by unfold eg;rw[show f.blocks.all (f7 f)=false from Bool.eq_false_iff.2 (dA hk2 (by rw[hbk];first|exact oX (by assumption)|exact oY (by assumption)|exact oZ (by assumption)))];simp)
     ·refine ze<|bi<|aC Z Z<|aa Z<|z7 ?_
      exact ⟨k+1,hZ,⟨congrArg (AV.int .i64) (by rw[hsucc];omega),rfl,trivial⟩,⟨_,(.drop (.refl _)),rfl⟩,⟨hk2,by rw[hsucc];omega,bX hk2 hall (by rw[hbk];exact D9 (by assumption) (by assumption) (by assumption))⟩,by omega⟩
  ·have hkn:k=f.blocks.length:=by simp at ck;omega
   subst hkn
   rw[qv] at hall ⊢
   refine zz<|ah<|aa Z<|za (Gv.leq Z Z)<|ad Z<|z7<|zf<|zh (x:=.bool _) Z ?_
   exact jb (by unfold eg;rw[w4 hN,hall];simp;omega)
theorem rA (f:ab) (p:bu):jB f p=true↔nu f p:=by
 unfold jB nu
 simp only[w6,Bool.not_eq_true',decide_eq_false_iff_not,wa]
 constructor
 ·rintro ⟨⟨⟨⟨h1,h2⟩,h3⟩,h4⟩,h5⟩;exact ⟨h3,h2,by omega,h4,h5⟩
 ·rintro ⟨h3,h2,h1,h4,h5⟩;exact ⟨⟨⟨⟨by omega,h2⟩,h3⟩,h4⟩,h5⟩
theorem rB (t:Int):¬iQ t=⟨#[]⟩↔0≤t∧t≤2:=by
 unfold iQ
 constructor
 ·intro h
  by_cases h0:t=0
  ·omega
  ·by_cases h1:t=1
   ·omega
   ·by_cases h2:t=2
    ·omega
    ·rw[if_neg h0,if_neg h1,if_neg h2] at h;exact absurd rfl h
 ·intro h e
  have:t=0∨t=1∨t=2:=by omega
  rcases this with rfl|rfl|rfl<;>exact absurd e (by decide)
theorem Cv (f:ab) (b:aB):f7 f b=true↔vB f b:=by
 unfold f7 vB
 simp only[w6,Bool.not_eq_true',List.any_eq_false,Bool.not_eq_false]
 constructor
 ·rintro ⟨⟨h1,h2⟩,h3⟩
  exact ⟨fun p hp=>(rA f p).1 (by simpa using h1 p hp),fun x hx=>(oU f x).1 (by simpa using h2 x hx),h3⟩
 ·rintro ⟨h1,h2,h3⟩
  exact ⟨⟨fun p hp=>by simpa using (rA f p).2 (h1 p hp),fun x hx=>by simpa using (oU f x).2 (h2 x hx)⟩,h3⟩
theorem Ea {l:List ByteArray}:vK l↔∀i (h:i<l.length),dR l[i]=true∧l[i] ∉ l.take i:=by
 unfold vK
 constructor<;>intro h i hi
 ·exact ⟨(h i hi).1,fun hm=>by have:=xn.2 hm;rw[(h i hi).2] at this;cases this⟩
 ·exact ⟨(h i hi).1,Bool.eq_false_iff.2 fun hm=>(h i hi).2 (xn.1 hm)⟩
theorem xp {f:ab} {i:Nat} (h:i<(cZ f).length) (h':i<f.vars.length):(cZ f)[i]=f.vars[i].name:=by
 have:(cZ f)[i]?=some f.vars[i].name:=by unfold cZ;rw[qy,qq h'];rfl
 rw[qq h] at this
 simpa using this
theorem xq {f:ab} {i:Nat} (h:i<(dn f).length) (h':i<f.blocks.length):(dn f)[i]=f.blocks[i].name:=by
 have:(dn f)[i]?=some f.blocks[i].name:=by unfold dn;rw[qy,qq h'];rfl
 rw[qq h] at this
 simpa using this
theorem dS (f:ab):eg f=decide (bA f):=by
 rw[qz,decide_eq_true_iff]
 unfold eg
 simp only[w6,decide_eq_true_iff,w7,Cv]
 unfold e9 kS bA kR
 simp only[Ea]
 constructor
 ·rintro ⟨⟨h1,h2,⟨g1,g2,g3,g4,g5⟩,h4,h5⟩,h6,h7⟩
  refine ⟨?_,h2,fun i h=>?_,fun i h=>?_,h7,h6⟩
  ·simp;omega
  ·have ht:=(rB _).1 (h1 i h)
   have hu:=h4 i (by unfold cZ;simpa using h)
   have e:=xp (f:=f) (i:=i) (by unfold cZ;simpa using h) h
   rw[e] at hu
   exact ⟨by rw[nS];exact hu.1,ht.1,ht.2,fun s hs e2=>hu.2 (by unfold cZ;rw[←List.map_take,←e2];exact hs)⟩
  ·have hu:=h5 i (by unfold dn;simpa using h)
   have e:=xq (f:=f) (i:=i) (by unfold dn;simpa using h) h
   rw[e] at hu
   exact ⟨by rw[nS];exact hu.1,fun s hs e2=>hu.2 (by unfold dn;rw[←List.map_take,←e2];exact hs)⟩
 ·rintro ⟨h1,h2,h3,h4,h7,h6⟩
  simp at h1
  refine ⟨⟨fun i h=>(rB _).2 ⟨(h3 i h).2.1,(h3 i h).2.2.1⟩,h2,by omega,fun i h=>?_,fun i h=>?_⟩,h6,h7⟩
  ·have h':i<f.vars.length:=by simpa using h
   have e:=xp h h'
   rw[e]
   exact ⟨by rw[←nS];exact (h3 i h').1,fun hm=>(h3 i h').2.2.2 _ (by unfold cZ at hm;rw[←List.map_take] at hm;exact hm) rfl⟩
  ·have h':i<f.blocks.length:=by simpa using h
   have e:=xq h h'
   rw[e]
   exact ⟨by rw[←nS];exact (h4 i h').1,fun hm=>(h4 i h').2 _ (by unfold dn at hm;rw[←List.map_take] at hm;exact hm) rfl⟩
end
section
open Go.Proofs.Tryz
open Go.Proofs Go.Lib Go.Shelf Go.RowKit
variable {E:World}
set_option maxRecDepth 20000
theorem bA.ends {f:ab} (h:bA f):br f:=by
 obtain ⟨h1,_,_,_,_,h6⟩:=h
 unfold kR at h1
 simp only[Bool.or_eq_false_iff,decide_eq_false_iff_not] at h1
 refine ⟨by omega,fun b hb c hc=>?_⟩
 have ht:=(h6 b hb).2.2
 unfold bj at ht
 unfold aU at hc
 split at hc
 ·rename_i hk
  rw[if_pos hk] at ht
  simp only[w6,du,wa] at ht
  simp at hc;subst hc;exact ht.1.1
 ·rename_i hk
  rw[if_neg hk] at ht
  split at hc
  ·rename_i hk1
   rw[if_pos hk1] at ht
   simp only[w6,du,wa] at ht
   split at hc
   ·simp at hc;subst hc;exact ht.1.2
   ·simp at hc;rcases hc with rfl|rfl
    ·exact ht.1.2
    ·exact ht.2
  ·cases hc
def fw (f:ab) (b:aB):Bool:=b.phis.all (nt f)&&b.insts.all (ic f)&&cD f b.term
def aT (f:ab):Bool:=eg f&&f.blocks.all (fw f)
theorem small.shaped {f:ab} (hf:small f) (hL:aj E):aZ prog E 83 [.agg (bQ f)] (.bool (eg f)):=
 tU f hf.ok (by have:=hf.1;omega) (by have:=hf.2.2.1;omega) (by have:=hf.2.1;omega) hf.names hL
theorem f8 {f:ab} {t:cC} (h:bj f t=true) (hk:¬t.kind=0):bl f t.var=true:=by
 unfold bj at h
 rw[if_neg hk] at h
 split at h
 ·simp only[w6] at h;exact h.1.1
 ·split at h
  ·simp only[w6] at h;exact h.1
  ·cases h
theorem vL (f:ab) (hf:small f) (hL:aj E):aZ prog E 64 [.agg (bQ f)] (.int .i64 (if aT f then 0 else 3)):=by
 have hok:=hf.ok
 refine zo func64 Z (by decide) Z<|ah<|yb (cs:=_) Z Z Z<|aw Z<|z7<|zb<|ah<|ac js jk Z Z<|zi (hf.shaped hL) Z<|aD Z<|z7<|zr Z (fun cs=>?_) (fun cs=>?_)
 ·refine ah<|aw Z<|z7<|zf<|zh (x:=.int _ _) Z ?_
  unfold aT;rw[show eg f=false by simpa using cs];rfl
 ·have hsb:eg f=true:=by simpa using cs
  have hS:bA f:=by rw[dS] at hsb;exact w9 hsb
  have hB:=hS.2.2.2.2.2
  have hfl:=hok.2.2.1.lt
  refine ze<|zb<|ah<|aq ji Z Z0 Z Z<|aM Z6 Z<|ae jl Z<|aa Z<|z7<|zg<|y7 (γ:=Nat) [1,13,14] (fun k=>[(15,.int .i64 k)]) (fun k=>[]) (fun k=>k≤f.blocks.length∧(f.blocks.take k).all (fw f)=true) (fun k=>f.blocks.length - k) 0 aW aN (⟨qt _,Z⟩) ?_
  rintro k ⟨hk,hall⟩
  refine ah<|ay Z Z<|z7<|zb<|zm Z (fun ck=>?_) (fun ck=>?_)
  ·have hk2:k<f.blocks.length:=by simp at ck;omega
   obtain ⟨b,hbk⟩:∃b,f.blocks[k]=b:=⟨_,rfl⟩
   have hget:f.blocks[k]?=some b:=by rw[qq hk2,hbk]
   have hmem:b∈f.blocks:=hbk▸qu hk2
   obtain ⟨hph,hin,htm⟩:=hB b hmem
   have hbad:fw f b=false→aT f=false:=fun h=>by unfold aT;rw[Bool.eq_false_iff.2 (dA hk2 (by rw[hbk];exact h))];simp
   have hs5:=hok.2.2.2 b hmem
   have hpl:=hs5.1.lt
   have hil:=hs5.2.1.lt
   refine ze<|zb<|zg<|ah<|za (cH k jl jv Z Z Z hget)<|ac Zu jv Z Z<|zy (cs:=[.str ⟨#[]⟩,.raw (.slice none 0 0),.raw (.slice none 0 0),.int .i64 0,.int .i64 0,.int .i64 0,.int .i64 0]) Zc Z Z<|fun i4=>zt jv Z Z Z Z Z Z .head Z<|zx (yo (t:=4) Z .head)<|z7<|zb<|ah<|aq jh Z Zf Z Z<|aM Zv Z<|ae jx Z<|aa Z<|z7<|zg<|y7 (γ:=Nat) [1,4,13,14,15,20,21] (fun p=>[(22,.int .i64 p)]) (fun p=>[]) (fun p=>p≤b.phis.length∧(b.phis.take p).all (nt f)=true) (fun p=>b.phis.length - p) 0 aW aN (⟨qt _,Z⟩) ?_
   rintro p ⟨hp,hpall⟩
   refine ah<|ay Z Z<|z7<|zb<|zm Z (fun cp=>?_) (fun cp=>?_)
   ·have hp2:p<b.phis.length:=by simp at cp;omega
    have hpm:=qu hp2
    have hP:=hph _ hpm
    refine ze<|zb<|zg<|ah<|za (cH p jx Z1 Z Z Z (qq hp2))<|ac Y0 Z1 Z Z<|zy (cs:=[.int .i64 0,.raw (.slice none 0 0),.raw (.slice none 0 0)]) Ze Z Z<|fun i6=>zt Z1 Z Z Z Z Z Z .head Z<|zx (yo (t:=6) Z .head)<|z7<|ah<|ac js jk Z Z<|ac Y0 Z1 Z Z<|zi (Ci f b.phis[p] (hs5.2.2.1 _ hpm) hP.2.2.2.1 hP.1) Z<|aD Z<|z7<|zr Z (fun cq=>?_) (fun cq=>?_)
    ·refine ah<|aw Z<|z7<|zf<|zh (x:=.int _ _) Z ?_
     rw[hbad (by unfold fw;rw[Bool.eq_false_iff.2 (dA hp2 (by simpa using cq))];rfl)];rfl
    ·refine ze<|bi<|aC Z Z<|aa Z<|z7 ?_
     exact ⟨p+1,iM,aW,aN,⟨hp2,bX hp2 hpall (by simpa using cq)⟩,by omega⟩
   ·have hpn:p=b.phis.length:=by simp at cp;omega
    subst hpn
    rw[qv] at hpall
    refine zz<|zb<|ah<|aq jh Z Zi Z Z<|aM Zy Z<|ae jz Z<|aa Z<|z7<|zg<|y7 (γ:=Nat) [1,4,13,14,15,32,33] (fun q=>[(34,.int .i64 q)]) (fun q=>[]) (fun q=>q≤b.insts.length∧(b.insts.take q).all (ic f)=true) (fun q=>b.insts.length - q) 0 aW aN (⟨qt _,Z⟩) ?_
    rintro q ⟨hq,hqall⟩
    refine ah<|ay Z Z<|z7<|zb<|zm Z (fun cp2=>?_) (fun cp2=>?_)
    ·have hq2:q<b.insts.length:=by simp at cp2;omega
     have hqm:=qu hq2
     have hI:=lQ (hin _ hqm)
     have hId:cQ b.insts[q].op=true→bl f b.insts[q].dst=true:=fun h=>by
      rcases hI.dst with ⟨d1,_⟩|⟨_,_,d3⟩
      ·rw[h] at d1;cases d1
      ·exact d3
     refine ze<|zb<|zg<|ah<|za (cH q jz Z5 Z Z Z (qq hq2))<|ac Yd Z5 Z Z<|zy (cs:=[.int .i64 0,.int .i64 0,.raw (.slice none 0 0),.int .i64 0]) Y3 Z Z<|fun i8=>zt Z5 Z Z Z Z Z Z .head Z<|zx (yo (t:=8) Z .head)<|z7<|ah<|ac js jk Z Z<|ac Yd Z5 Z Z<|zi (vx f b.insts[q] (List.all_eq_true.2 hI.args) hI.len hId) Z<|aD Z<|z7<|zr Z (fun cq=>?_) (fun cq=>?_)
     ·refine ah<|aw Z<|z7<|zf<|zh (x:=.int _ _) Z ?_
      rw[hbad (by unfold fw;rw[hpall,Bool.eq_false_iff.2 (dA hq2 (by simpa using cq))];rfl)];rfl
     ·refine ze<|bi<|aC Z Z<|aa Z<|z7 ?_
      exact ⟨q+1,iM,aW,aN,⟨hq2,bX hq2 hqall (by simpa using cq)⟩,by omega⟩
    ·have hqn:q=b.insts.length:=by simp at cp2;omega
     subst hqn
     rw[qv] at hqall
     refine zz<|ah<|ac js jk Z Z<|aq jh Z Z4 Z Z<|ac Yo Z4 Z Z<|zi (vz f b.term (f8 htm)) Z<|aD Z<|z7<|zr Z (fun ct=>?_) (fun ct=>?_)
     ·refine ah<|aw Z<|z7<|zf<|zh (x:=.int _ _) Z ?_
      rw[hbad (by unfold fw;rw[hpall,hqall];simpa using ct)];rfl
     ·refine ze<|bi<|aC Z Z<|aa Z<|z7 ?_
      exact ⟨k+1,hZ,aW,aN,⟨hk2,bX hk2 hall (by rw[hbk];unfold fw;rw[hpall,hqall];simpa using ct)⟩,by omega⟩
  ·have hkn:k=f.blocks.length:=by simp at ck;omega
   subst hkn
   rw[qv] at hall
   refine zz<|ah<|aw Z<|z7<|zf<|zh (x:=.int _ _) Z ?_
   unfold aT;rw[hsb,hall];rfl
end
section
open Go.Proofs.Tryz
open Go.Proofs Go.Lib
def ord (f:ab):List Int:=aK (au f) f.blocks.length
def Ke:aB:=⟨⟨#[]⟩,[],[],⟨0,0,0,0⟩⟩
def bb (f:ab) (x:Int):aB:=(f.blocks[x.toNat]?).getD Ke
def iF (p:bu):List (Int × Int):=p.from_.zip p.args
def jZ (p:bu) (x:Int):Option Int:=((iF p).find? fun q=>decide (q.1=x)).map (·.2)
def dT (ν β:Int→Int) (t:cC):cC:=
 if t.kind=0 then ⟨t.kind,t.var,β t.to0,t.to1⟩ else if t.kind=1 then ⟨t.kind,ν t.var,β t.to0,β t.to1⟩ else ⟨t.kind,ν t.var,t.to0,t.to1⟩
def jG (ν:Int→Int) (x:bc):bc:=⟨x.op,if 0≤x.dst then ν x.dst else x.dst,x.args.map ν,x.num⟩
def f9 (x:bc):List Int:=x.args++if 0≤x.dst then[x.dst] else[]
def fx (t:cC):List Int:=if t.kind=0 then[] else[t.var]
structure Kf (R V:Int→Prop) (β ν:Int→Int) (b c:aB):Prop where
 nphi:c.phis.length=b.phis.length
 phi:∀(i:Nat) (p q:bu),b.phis[i]?=some p→c.phis[i]?=some q→q.dst=ν p.dst∧V p.dst∧q.from_.length=q.args.length∧∃k:List (Int × Int),(∀z,z∈k↔z∈iF p∧R z.1)∧List.Sublist k (iF p)∧(∀z∈k,V z.2)∧(iF q).Perm (k.map fun z=>(β z.1,ν z.2))
 insts:c.insts=b.insts.map (jG ν)
 instv:∀x∈b.insts,∀v∈f9 x,V v
 term:c.term=dT ν β b.term
 termv:∀v∈fx b.term,V v
structure lR (R V:Int→Prop) (β ν:Int→Int) (f g:ab):Prop where
 okf:br f
 okg:br g
 r0:R 0
 b0:β 0=0
 rng:∀x,R x→(0≤x∧x<f.blocks.length)∧0≤β x∧β x<g.blocks.length
 cl:∀x,R x→∀c∈au f x,R c
 onto:∀y:Int,0≤y→y<g.blocks.length→∃x,R x∧β x=y
 inj:∀x y,R x→R y→β x=β y→x=y
 blk:∀x,R x→Kf R V β ν (bb f x) (bb g (β x))
 par:g.params=f.params
 parv:∀v∈f.params,V v∧ν v=v
 vty:∀v,V v→0≤v∧0≤ν v∧bp g (ν v)=bp f v
 vinj:∀u v,V u→V v→ν u=ν v→u=v
theorem eh {f:ab} {x:Int} (h0:0≤x) (h1:x<f.blocks.length):au f x=aU (bb f x).term:=by
 unfold au bb
 rw[if_pos h0,qq (by omega)];rfl
theorem mC {ν β:Int→Int} {t:cC} (h:∀x∈aU t,∀y∈aU t,β x=β y→x=y):aU (dT ν β t)=(aU t).map β:=by
 unfold aU dT at *
 by_cases h0:t.kind=0
 ·rw[if_pos h0];dsimp only;rw[if_pos h0,if_pos h0];rfl
 ·rw[if_neg h0] at h ⊢
  by_cases h1:t.kind=1
  ·rw[if_pos h1] at h ⊢
   dsimp only
   rw[if_neg h0,if_pos h1]
   by_cases e:t.to0=t.to1
   ·rw[if_pos e,if_pos (by rw[e]),if_neg h0,if_pos h1];rfl
   ·rw[if_neg e] at h ⊢
    rw[if_neg fun k=>e (h _ (by simp) _ (by simp) k),if_neg h0,if_pos h1];rfl
  ·rw[if_neg h1];dsimp only;rw[if_neg h0,if_neg h1];rfl
section
variable {R V:Int→Prop} {β ν:Int→Int} {f g:ab} (h:lR R V β ν f g)
include h
theorem lR.leads {x:Int} (hx:R x):au g (β x)=(au f x).map β:=by
 have hr:=h.rng x hx
 rw[eh hr.1.1 hr.1.2,eh hr.2.1 hr.2.2,(h.blk x hx).term]
 apply mC
 rw[←eh hr.1.1 hr.1.2]
 exact fun a ha b hb=>h.inj a b (h.cl x hx a ha) (h.cl x hx b hb)
end
end
section
open Go.Proofs.Tryz
open Go.Proofs Go.Lib
def kT (p:bu):Prop:=((iF p).map (·.1)).Nodup
theorem j4 {p:bu} (hn:kT p) {x a:Int}:jZ p x=some a↔(x,a)∈iF p:=by
 unfold jZ kT at *
 generalize iF p=l at *
 induction l with
 |nil=>simp
 |cons z l ih=>
  rw[List.map_cons,List.nodup_cons] at hn
  rw[List.find?_cons]
  by_cases e:z.1=x
  ·rw[w4 e]
   show some z.2=some a↔_
   rw[List.mem_cons]
   constructor
   ·intro h;left;rw[←e,←Option.some.inj h]
   ·rintro (h|h)
    ·rw[←h]
    ·exact absurd (List.mem_map.2 ⟨_,h,rfl⟩) (e▸hn.1)
  ·rw[w5 e]
   refine (ih hn.2).trans ?_
   rw[List.mem_cons]
   exact ⟨.inr,fun h=>h.resolve_left fun k=>e (by rw[←k])⟩
section
variable {R V:Int→Prop} {β ν:Int→Int} {f g:ab} (h:lR R V β ν f g) (hD:∀x,R x→∀p∈(bb f x).phis,kT p)
include h
include hD
theorem lR.look {x y:Int} (hx:R x) (hy:R y) {i:Nat} {p q:bu} (hp:(bb f x).phis[i]?=some p) (hq:(bb g (β x)).phis[i]?=some q):jZ q (β y)=(jZ p y).map ν∧∀a,jZ p y=some a→V a:=by
 obtain ⟨_,_,_,k,k1,k2,k3,k4⟩:=(h.blk x hx).phi i p q hp hq
 have hpn:=hD x hx p (w0 hp)
 have hkn:(k.map (·.1)).Nodup:=(k2.map _).nodup hpn
 have hqn:kT q:=by
  unfold kT
  refine (k4.map (·.1)).nodup_iff.2 ?_
  rw[List.map_map]
  have:∀l:List (Int × Int),(∀z∈l,R z.1)→(l.map (·.1)).Nodup→(l.map ((fun z:Int × Int=>z.1)∘fun z=>(β z.1,ν z.2))).Nodup:=by
   intro l
   induction l with
   |nil=>intro _ _;simp
   |cons z l ih=>
    intro h1 h2
    rw[List.map_cons,List.nodup_cons] at h2 ⊢
    refine ⟨fun hm=>?_,ih (fun z hz=>h1 z (.tail _ hz)) h2.2⟩
    obtain ⟨w,hw,e⟩:=List.mem_map.1 hm
    exact h2.1 (List.mem_map.2 ⟨w,hw,h.inj _ _ (h1 w (.tail _ hw)) (h1 z (.head _)) e⟩)
  exact this k (fun z hz=>((k1 z).1 hz).2) hkn
 have hmem:∀a',(β y,a')∈iF q↔∃a,(y,a)∈iF p∧ν a=a':=fun a'=>by
  rw[k4.mem_iff,List.mem_map]
  constructor
  ·rintro ⟨z,hz,e⟩
   obtain ⟨e1,e2⟩:=Prod.mk.inj e
   obtain ⟨z1,z2⟩:=(k1 z).1 hz
   have:=h.inj _ _ z2 hy e1
   exact ⟨z.2,by rw[←this];exact z1,e2⟩
  ·rintro ⟨a,ha,e⟩
   exact ⟨(y,a),(k1 _).2 ⟨ha,hy⟩,by rw[←e]⟩
 refine ⟨?_,fun a ha=>k3 (y,a) ((k1 _).2 ⟨(j4 hpn).1 ha,hy⟩)⟩
 cases hl:jZ p y with
 |some a=>exact (j4 hqn).2 ((hmem _).2 ⟨a,(j4 hpn).1 hl,rfl⟩)
 |none=>
  cases hl2:jZ q (β y) with
  |none=>rfl
  |some a'=>
   obtain ⟨a,ha,_⟩:=(hmem a').1 ((j4 hqn).1 hl2)
   rw[(j4 hpn).2 ha] at hl;cases hl
end
end
section
open Go.Proofs.Tryz
open Go.Proofs Go.Lib
def fy (f:ab):List Nat:=(List.range f.blocks.length).filter fun (b:Nat)=>decide ((b:Int)∈ord f)
def dK (f:ab) (x:Int):Int:=if x∈ord f then ((fy f).idxOf x.toNat:Int) else -1
def gW (nm:Int→Int) (fr:List Int) (p:bu):List (Int × Int):=(iF p).filter fun z=>decide (z.1∈fr∧0≤nm z.1)
def cL (nm:Int→Int) (fr:List Int) (p:bu):bu:=⟨p.dst,(gW nm fr p).map (·.2),(gW nm fr p).map fun z=>nm z.1⟩
def eM (nm:Int→Int) (fr:List Int) (b:aB):aB:=⟨b.name,b.phis.map (cL nm fr),b.insts,dT id nm b.term⟩
def fR (f:ab) (b:Nat):List Int:=bE (au f) f.blocks.length b
def bh (f:ab):ab:=⟨f.vars,f.params,(fy f).map fun b=>eM (dK f) (fR f b) (bb f b)⟩
section
variable {f:ab}
theorem j5 {b:Nat} (hE:br f):b∈fy f↔(b:Int)∈ord f:=by
 unfold fy
 rw[List.mem_filter,List.mem_range,wa]
 exact ⟨fun h=>h.2,fun h=>⟨by have:=bm hE.grph.toEOk h;omega,h⟩⟩
theorem tV:(fy f).Nodup:=List.Nodup.sublist List.filter_sublist List.nodup_range
theorem iR (hE:br f) {x:Int} (hx:x∈ord f):∃k:Nat,dK f x=k∧(fy f)[k]?=some x.toNat∧k<(fy f).length:=by
 have h0:=bm hE.grph.toEOk hx
 have hm:x.toNat∈fy f:=(j5 hE).2 (by rwa [w8 h0.1])
 have hl:=List.idxOf_lt_length_of_mem hm
 refine ⟨(fy f).idxOf x.toNat,by unfold dK;rw[if_pos hx],?_,hl⟩
 rw[qq hl,List.getElem_idxOf hl]
theorem kx (hE:br f) {k:Nat} {b:Nat} (hk:(fy f)[k]?=some b):dK f b=k:=by
 have hm:(b:Int)∈ord f:=(j5 hE).1 (w0 hk)
 obtain ⟨j,hj,h2,_⟩:=iR hE hm
 rw[hj]
 have h3:(fy f)[j]?=some b:=h2
 obtain ⟨hk1,hk2⟩:=List.getElem?_eq_some_iff.1 hk
 obtain ⟨hj1,hj2⟩:=List.getElem?_eq_some_iff.1 h3
 have:=(List.getElem_inj tV (h₀:=hj1) (h₁:=hk1)).1 (by rw[hj2,hk2])
 rw[this]
theorem lS (hE:br f) {x y:Int} (hx:x∈ord f) (hy:y∈ord f) (h:dK f x=dK f y):x=y:=by
 obtain ⟨k,hk,h2,_⟩:=iR hE hx
 obtain ⟨j,hj,h3,_⟩:=iR hE hy
 have a:=bm hE.grph.toEOk hx
 have b:=bm hE.grph.toEOk hy
 have:k=j:=by omega
 rw[this,h3] at h2
 have:=Option.some.inj h2
 omega
theorem xr (hE:br f) {x:Int}:0≤dK f x↔x∈ord f:=by
 by_cases h:x∈ord f
 ·obtain ⟨k,hk,_⟩:=iR hE h
  exact ⟨fun _=>h,fun _=>by omega⟩
 ·exact ⟨fun k=>by unfold dK at k;rw[if_neg h] at k;omega,fun k=>absurd k h⟩
theorem lT (hE:br f):(0:Int)∈ord f:=w0 (oy hE.grph.toEOk)
theorem xt (hE:br f):(fy f)[0]?=some 0:=by
 have hz:=lT hE
 obtain ⟨n,hn⟩:∃n,f.blocks.length=n+1:=⟨f.blocks.length - 1,by have:=hE.pos;omega⟩
 unfold fy
 rw[hn,List.range_succ_eq_map,List.filter_cons,if_pos (by simpa using hz)];rfl
theorem lU (hE:br f):dK f 0=0:=kx hE (xt hE)
theorem eN {k:Nat} {b:aB} (h:f.blocks[k]?=some b):bb f k=b:=by unfold bb;rw[show ((k:Int).toNat)=k from rfl,h];rfl
theorem o1 (hE:br f) {x:Int} (hx:x∈ord f):bb (bh f) (dK f x)=eM (dK f) (fR f x.toNat) (bb f x):=by
 obtain ⟨k,hk,h2,_⟩:=iR hE hx
 have h0:=bm hE.grph.toEOk hx
 rw[hk]
 refine eN ?_
 show ((fy f).map _)[k]?=_
 rw[qy,h2]
 show some (eM _ _ (bb f (x.toNat:Int)))=_
 rw[w8 h0.1]
theorem Gr (x:bc):jG id x=x:=by unfold jG;rw[List.map_id];simp
theorem lV (hE:br f) {x c:Int} (hx:x∈ord f) (hc:c∈au f x):c∈ord f:=(el hE.grph.toEOk c).2 (.step ((el hE.grph.toEOk x).1 hx) hc trivial)
theorem o3 (hE:br f):br (bh f):=by
 refine ⟨?_,fun b hb c hc=>?_⟩
 ·show 0<((fy f).map _).length
  rw[qx]
  exact (List.getElem?_eq_some_iff.1 (xt hE)).1
 ·obtain ⟨x,hx,rfl⟩:=List.mem_map.1 hb
  have hxo:=(j5 hE).1 hx
  have hr:=bm hE.grph.toEOk hxo
  have hend:∀c∈aU (bb f x).term,c∈ord f:=by rw[←eh hr.1 hr.2];exact fun c hc=>lV hE hxo hc
  have hc:c∈aU (dT id (dK f) (bb f x).term):=hc
  rw[mC fun a ha b hb=>lS hE (hend a ha) (hend b hb)] at hc
  obtain ⟨a,ha,rfl⟩:=List.mem_map.1 hc
  obtain ⟨k,hk,_,h3⟩:=iR hE (hend a ha)
  show 0≤dK f a∧dK f a<(((fy f).map _).length:Nat)
  rw[qx,hk]
  omega
theorem xu {nm:Int→Int}:∀l:List (Int × Int),(l.map fun z=>nm z.1).zip (l.map (·.2))=l.map fun z=>(nm z.1,id z.2)
 |[]=>rfl
 |z::l=>by rw[List.map_cons,List.map_cons,List.zip_cons_cons,xu l];rfl
theorem rC {b:aB} (hS:bA f) (hb:b∈f.blocks) {x:bc} (hx:x∈b.insts):∀v∈f9 x,bl f v=true:=fun v hv=>by
 obtain ⟨_,_,h3,h4⟩:=(hS.2.2.2.2.2 b hb).2.1 x hx
 unfold f9 at hv
 rcases List.mem_append.1 hv with h|h
 ·exact List.all_eq_true.1 h4 v h
 ·by_cases h0:0≤x.dst
  ·rw[if_pos h0] at h
   rw[List.mem_singleton.1 h]
   unfold lh at h3
   rw[show decide (x.dst=-1)=false from w5 (by omega)] at h3
   simp only[Bool.or_eq_false_iff] at h3
   simpa using h3.2.2.1
  ·rw[if_neg h0] at h;cases h
theorem rD {b:aB} (hS:bA f) (hb:b∈f.blocks):∀v∈fx b.term,bl f v=true:=fun v hv=>by
 have h:=(hS.2.2.2.2.2 b hb).2.2
 unfold fx at hv
 by_cases h0:b.term.kind=0
 ·rw[if_pos h0] at hv;cases hv
 ·rw[if_neg h0] at hv
  rw[List.mem_singleton.1 hv]
  exact f8 h h0
theorem Eb (hS:bA f):∀v∈f.params,bl f v=true:=fun v hv=>by
 obtain ⟨i,hi,rfl⟩:=List.getElem_of_mem hv
 have h1:=hS.1
 unfold kR at h1
 simp only[Bool.or_eq_false_iff,decide_eq_false_iff_not] at h1
 rw[hS.2.1 i hi]
 unfold bl
 simp;omega
theorem o4 (hE:br f) (hS:bA f) (hJ:ep f):lR (·∈ord f) (fun v=>bl f v=true) (dK f) id f (bh f):=by
 have hl:(bh f).blocks.length=(fy f).length:=qx ..
 refine { okf:=hE,okg:=o3 hE,r0:=lT hE,b0:=lU hE,rng:=fun x hx=>?_,cl:=fun x hx c hc=>lV hE hx hc,onto:=fun y h0 h1=>?_,inj:=fun x y=>lS hE,blk:=fun x hx=>?_,par:=Z,parv:=fun v hv=>⟨Eb hS v hv,Z⟩,vty:=fun v hv=>?_,vinj:=fun _ _ _ _ e=>e }
 ·obtain ⟨k,hk,_,h3⟩:=iR hE hx
  have:=bm hE.grph.toEOk hx
  exact ⟨this,by omega,by rw[hk,hl];omega⟩
 ·obtain ⟨k,rfl⟩:∃k:Nat,y=k:=⟨y.toNat,by omega⟩
  have hk:k<(fy f).length:=by omega
  exact ⟨((fy f)[k]:Nat),(j5 hE).1 (qu hk),kx hE (qq hk)⟩
 ·rw[o1 hE hx]
  have hr:=bm hE.grph.toEOk hx
  have hxl:x.toNat<f.blocks.length:=by omega
  have ex:f.blocks[x.toNat]=bb f x:=by unfold bb;rw[qq hxl];rfl
  have hm:bb f x∈f.blocks:=by rw[←ex];exact qu hxl
  refine ⟨qx ..,fun i p q hp hq=>?_,?_,fun z hz=>rC hS hm hz,Z,rD hS hm⟩
  ·have hq:((bb f x).phis.map (cL (dK f) (fR f x.toNat)))[i]?=some q:=hq
   rw[qy,hp] at hq
   have hq:=(Option.some.inj hq).symm
   subst hq
   have hpm:=w0 hp
   obtain ⟨p1,p2,p3,p4,p5⟩:=(hS.2.2.2.2.2 _ hm).1 p hpm
   have hj:=hJ x.toNat hxl p (by rw[ex];exact hpm)
   refine ⟨Z,p1,?_,gW (dK f) (fR f x.toNat) p,fun z=>?_,List.filter_sublist,fun z hz=>?_,?_⟩
   ·show ((gW _ _ p).map _).length=((gW _ _ p).map _).length
    rw[qx,qx]
   ·unfold gW
    rw[List.mem_filter,wa,xr hE]
    exact and_congr_right fun hz=>⟨fun h=>h.2,fun h=>⟨hj.mem_iff.1 (List.of_mem_zip hz).1,h⟩⟩
   ·exact List.all_eq_true.1 p4 _ (List.of_mem_zip (List.mem_filter.1 hz).1).2
   ·show (((gW _ _ p).map _).zip ((gW _ _ p).map _)).Perm _
    rw[xu]
  ·exact (List.map_id _).symm.trans (List.map_congr_left fun z _=>(Gr z).symm)
 ·have:=hv
  unfold bl at this
  simp only[w6,wa] at this
  exact ⟨this.1,this.1,rfl⟩
end
end
section
open Go.Proofs.Tryz
structure FrS (E:Int→List Int) (a shut:Int) (n:Nat) (out:List Bool):Prop where
 len:out.length=n
 sound:∀b:Nat,out[b]?=some true→fX E a shut b
def vM (a:Int) (out:List Bool) (shut x:Int):Prop:=x≠shut∧(x=a∨gb out x=true)
instance (a:Int) (out:List Bool) (shut x:Int):Decidable (vM a out shut x):=by unfold vM;infer_instance
def Cw (E:Int→List Int) (a shut:Int) (out:List Bool) (k:Nat):Prop:=∀x:Nat,x<k→vM a out shut x→∀y:Nat,(y:Int)∈E x→(y:Int)≠shut→gb out y=true
def Kg (E:Int→List Int) (a shut:Int) (out:List Bool) (x j:Nat):Prop:=vM a out shut x→∀y:Nat,y<j→(y:Int)∈E x→(y:Int)≠shut→gb out y=true
def lm (out:List Bool):Nat:=(out.filter fun b=>!b).length
theorem Ec (out:List Bool) (k:Nat):gb out (k:Int)=(out[k]?).getD false:=rfl
theorem ky {out:List Bool} {k:Nat} (h:k<out.length):out[k]?=some (gb out k):=by
 rw[Ec,qq h];rfl
theorem FrS.begin (E:Int→List Int) (a shut:Int) (n:Nat):FrS E a shut n (List.replicate n false):=⟨by simp,fun b h=>by
 rw[List.getElem?_replicate] at h;split at h<;>simp at h⟩
theorem FrS.set {E:Int→List Int} {a shut:Int} {n:Nat} {out:List Bool} (h:FrS E a shut n out) {x y:Nat} (hx:vM a out shut x) (ha:a≠shut∨(x:Int)≠a) (he:(y:Int)∈E x) (hy:(y:Int)≠shut):FrS E a shut n (out.set y true):=by
 refine ⟨by rw[List.length_set];exact h.len,fun b hb=>?_⟩
 by_cases e:b=y
 ·subst e
  refine fX.step (x:=x) ?_ he hy
  rcases hx.2 with e|hg
  ·left
   refine ⟨e,?_⟩
   rw[←e];exact hx.1
  ·right
   by_cases hlt:x<out.length
   ·exact h.sound x (by rw[ky hlt,hg])
   ·rw[Ec,List.getElem?_eq_none (by omega)] at hg;simp at hg
 ·rw[List.getElem?_set_ne (fun e2=>e e2.symm)] at hb;exact h.sound b hb
theorem vN {out:List Bool} {y:Nat} (hy:y<out.length) (h:gb out y=false):lm (out.set y true)+1=lm out:=iG out y (by rw[ky hy,h])
structure Kh (E:Int→List Int) (a shut:Int) (n:Nat) (o0 out:List Bool) (again:Bool):Prop extends FrS E a shut n out where
 less:lm out≤lm o0
 more:again=true→lm out<lm o0
 same:again=false→out=o0
theorem Kh.hit {E:Int→List Int} {a shut:Int} {n:Nat} {o0 out:List Bool} {again:Bool} (h:Kh E a shut n o0 out again) {x y:Nat} (hx:vM a out shut x) (he:(y:Int)∈E x) (hy:(y:Int)≠shut) (hlt:y<n) (hf:gb out y=false):Kh E a shut n o0 (out.set y true) true:=by
 have h1:=vN (out:=out) (y:=y) (by rw[h.len];exact hlt) hf
 have h2:=h.less
 exact { h.toFrS.set hx (by
      by_cases e:(x:Int)=a
      ·left;rw[←e];exact hx.1
      ·exact .inr e) he hy with
     less:=by omega
     more:=fun _=>by omega
     same:=fun e=>by cases e }
theorem FrS.all {E:Int→List Int} {a shut:Int} {n:Nat} {out:List Bool} (hE:g6 E n) (ha:a=a∧0≤a∧a<n) (h:FrS E a shut n out) (hc:Cw E a shut out n) (b:Nat) (hb:b<n):gb out b=true↔fX E a shut b:=by
 constructor
 ·intro hg;exact h.sound b (by rw[ky (by rw[h.len];exact hb),hg])
 ·intro hf
  have:=fX.closed (out:=fun x:Int=>0≤x∧x<n∧gb out x=true) (fun x y h1 h2 h3 h4=>by
   have hxr:0≤x∧x<n:=by
    rcases h2 with e|h2
    ·rw[e];exact ha.2
    ·exact ⟨h2.1,h2.2.1⟩
   have hy:=hE.rng x hxr.1 hxr.2 y h3
   have e1:((x.toNat:Nat):Int)=x:=w8 hxr.1
   have e2:((y.toNat:Nat):Int)=y:=w8 hy.1
   refine ⟨hy.1,hy.2,?_⟩
   have:=hc x.toNat (by omega) ⟨by rw[e1];exact h1,by
    rw[e1]
    rcases h2 with e|h2
    ·exact .inl e
    ·exact .inr h2.2.2⟩ y.toNat (by rw[e1,e2];exact h3) (by rw[e2];exact h4)
   rwa [e2] at this) hf
  exact this.2.2
open Classical in
noncomputable def j6 (E:Int→List Int) (n:Nat) (a shut:Int):List Bool:=(dJ n).map fun b=>decide (fX E a shut b)
open Classical in
theorem FrS.eq {E:Int→List Int} {a shut:Int} {n:Nat} {out:List Bool} (hE:g6 E n) (ha:0≤a∧a<n) (h:FrS E a shut n out) (hc:Cw E a shut out n):out=j6 E n a shut:=by
 refine List.ext_getElem (by rw[h.len];unfold j6;rw[qx,eY]) fun k h1 h2=>?_
 have hk:k<n:=by rw[h.len] at h1;exact h1
 have:=h.all hE ⟨rfl,ha⟩ hc k hk
 have e1:out[k]=gb out k:=by have:=ky h1;rw[qq h1] at this;simpa using this
 have e2:(j6 E n a shut)[k]=decide (fX E a shut k):=by
  have h3:(j6 E n a shut)[k]?=some (decide (fX E a shut k)):=by unfold j6;rw[qy,kY hk];rfl
  rw[qq h2] at h3
  simpa using h3
 rw[e1,e2]
 by_cases hf:fX E a shut k
 ·rw[w4 hf];exact this.2 hf
 ·rw[w5 hf];exact Bool.eq_false_iff.2 fun e=>hf (this.1 e)
open Classical in
noncomputable def mD (E:Int→List Int) (n:Nat) (shut:Int):List Bool:=(dJ n).map fun b=>decide (gF E (fun x=>x≠shut) 0 b)
open Classical in
theorem Cx {E:Int→List Int} {n k:Nat} {a shut:Int} (hk:k<n):(j6 E n a shut)[k]?=some (decide (fX E a shut k)):=by unfold j6;rw[qy,kY hk];rfl
open Classical in
theorem ln {E:Int→List Int} {n k:Nat} {shut:Int} (hk:k<n):(mD E n shut)[k]?=some (decide (gF E (fun x=>x≠shut) 0 k)):=by unfold mD;rw[qy,kY hk];rfl
theorem kz (E:Int→List Int) (n:Nat) (a shut:Int):(j6 E n a shut).length=n:=by unfold j6;rw[qx,eY]
theorem o5 (E:Int→List Int) (n:Nat) (shut:Int):(mD E n shut).length=n:=by unfold mD;rw[qx,eY]
open Classical in
theorem Cy {E:Int→List Int} {n:Nat} (shut:Int):(j6 E n 0 shut).set 0 (decide (shut≠0))=mD E n shut:=by
 refine List.ext_getElem? fun k=>?_
 by_cases hk:k<n
 ·rw[ln hk]
  have hiff:=DK (E:=E) (shut:=shut) (b:=(k:Int))
  by_cases e:k=0
  ·subst e
   rw[List.getElem?_set_self (by rw[kz];exact hk)]
   refine congrArg some (Bool.eq_iff_iff.2 ?_)
   rw[decide_eq_true_iff,decide_eq_true_iff,←hiff]
   constructor
   ·intro h;exact .inl ⟨rfl,h⟩
   ·rintro (⟨_,h⟩|⟨h,_⟩)
    ·exact h
    ·exact absurd rfl h
  ·rw[List.getElem?_set_ne (fun e2=>e e2.symm),Cx hk]
   refine congrArg some (Bool.eq_iff_iff.2 ?_)
   rw[decide_eq_true_iff,decide_eq_true_iff,←hiff]
   constructor
   ·intro h;exact .inr ⟨by omega,h⟩
   ·rintro (⟨h,_⟩|⟨_,h⟩)
    ·omega
    ·exact h
 ·rw[List.getElem?_eq_none (by rw[List.length_set,kz];omega),List.getElem?_eq_none (by rw[o5];omega)]
end
section
open Go.Proofs.Tryz
def jH (v:Nat) (ev:List (Int × pZ)):Nat:=(ev.filter fun e=>decide (e.1=(v:Int))).length
theorem kC (v:Nat) (ev:List (Int × pZ)) (d:Int) (x:pZ):jH v (ev++[(d,x)])=jH v ev+if d=(v:Int) then 1 else 0:=by
 unfold jH;rw[List.filter_append,qw]
 by_cases h:d=(v:Int)<;>simp[h]
theorem tW (f:ab) (v:Nat):(bq f v).length=jH v (d8 f f.blocks.length):=by rw[←sg,qx];rfl
theorem xv (v:Nat) (ev:List (Int × pZ)):jH v ev≤ev.length:=List.length_filter_le _ _
theorem o6 {f:ab}:∀{n k:Nat},k≤n→n≤f.blocks.length→d8 f k <+: d8 f n
 |0,k,h,_=>by rw[show k=0 by omega];exact List.prefix_refl _
 |n+1,k,h,hn=>by
  by_cases e:k=n+1
  ·rw[e];exact List.prefix_refl _
  ·rw[fP (by omega)]
   exact (o6 (by omega) (by omega)).trans (List.prefix_append _ _)
theorem Ed (i:Nat) (ps:List bu) (j:Nat):eD i (ps.take j) <+: eD i ps:=by
 unfold eD
 obtain ⟨r,hr⟩:=List.take_prefix j ps
 exact ⟨r.map fun p=>(p.dst,((i:Int),-1)),by rw[←List.map_append,hr]⟩
theorem tX (i:Nat) (xs:List bc):∀(m j:Nat),j≤m→m≤xs.length→iL i (xs.take j) <+: iL i (xs.take m)
 |0,j,h,_=>by rw[show j=0 by omega];exact List.prefix_refl _
 |m+1,j,h,hm=>by
  by_cases e:j=m+1
  ·rw[e];exact List.prefix_refl _
  ·rw[kq i (by omega)]
   exact (tX i xs m j (by omega) (by omega)).trans (List.prefix_append _ _)
theorem Gs {f:ab} {k j:Nat} {b:aB} (hk:k<f.blocks.length) (hb:f.blocks[k]=b) (hj:j<b.phis.length):(d8 f k++eD k (b.phis.take j))++[(b.phis[j].dst,((k:Int),(-1:Int)))] <+: d8 f f.blocks.length:=by
 refine List.IsPrefix.trans ?_ (o6 (show k+1≤f.blocks.length by omega) (Nat.le_refl _))
 rw[fP hk,hb,qs,←my k hj,qI]
 exact (List.prefix_append_right_inj _).2 ((Ed k b.phis (j+1)).trans (List.prefix_append _ _))
theorem Ee {f:ab} {k j:Nat} {b:aB} (hk:k<f.blocks.length) (hb:f.blocks[k]=b) (hj:j<b.insts.length) (h0:0≤b.insts[j].dst):(d8 f k++eD k b.phis++iL k (b.insts.take j))++[(b.insts[j].dst,((k:Int),(j:Int)))] <+: d8 f f.blocks.length:=by
 refine List.IsPrefix.trans ?_ (o6 (show k+1≤f.blocks.length by omega) (Nat.le_refl _))
 have h:=kq k hj
 rw[if_pos h0] at h
 rw[fP hk,hb,qs,←h,qI,qs]
 have h2:=tX k b.insts b.insts.length (j+1) (by omega) (Nat.le_refl _)
 rw[qv] at h2
 exact (List.prefix_append_right_inj _).2 ((List.prefix_append_right_inj _).2 h2)
theorem rE {f:ab} {v:Nat} {pre:List (Int × pZ)} {x:pZ} (hp:pre++[((v:Int),x)] <+: d8 f f.blocks.length) (h0:jH v pre=0):bx f v=x:=by
 obtain ⟨r,hr⟩:=hp
 have h1:pre.filter (fun e=>decide (e.1=(v:Int)))=[]:=List.eq_nil_of_length_eq_zero h0
 unfold bx
 rw[←sg,←hr,List.filter_append,List.filter_append,h1]
 simp
theorem vO {f:ab} {v:Nat} (h0:jH v (d8 f f.blocks.length)=0):bx f v=(-1,0):=by
 unfold bx
 rw[←sg,List.eq_nil_of_length_eq_zero h0]
 rfl
noncomputable section
def dL (f:ab) (m:pZ) (b at_:Int):Bool:=by
 classical exact if m.1<0 then true else if m.1=b then decide (m.2<at_) else !decide (gF (au f) (fun x=>x≠m.1) 0 b)
def JW (f:ab) (p:bu):Bool:=(p.args.zip p.from_).all fun q=>dL f (bx f q.1) q.2 (g9 f q.2)
def JX (f:ab) (i:Nat) (x:bc × Nat):Bool:=x.1.args.all fun v=>dL f (bx f v) i x.2
def JY (f:ab) (i:Nat) (b:aB):Bool:=decide (b.term.kind=0)||dL f (bx f b.term.var) i b.insts.length
def nz (f:ab) (i:Nat) (b:aB):Bool:=by
 classical exact decide (tj (au f) (i:Int))&&(b.phis.all (JW f)&&(b.insts.zipIdx.all (JX f i)&&JY f i b))
def JZ (f:ab) (i:Nat):Bool:=((f.blocks[i]?).map (nz f i)).getD true
def jC (f:ab):Bool:=cO f&&(rp f&&(List.range f.blocks.length).all (JZ f))
end
theorem mE {f:ab} {i:Nat} {b:aB} (h:f.blocks[i]?=some b):JZ f i=nz f i b:=by unfold JZ;rw[h];rfl
theorem mF {f:ab} (hE:br f) (m:pZ) {b:Int} (at_:Int) (hb:tj (au f) b):dL f m b at_=mz f m b at_:=by
 rw[qz,f0 hE]
 unfold dL gT
 by_cases h0:m.1<0
 ·rw[if_pos h0];simp[h0]
 ·rw[if_neg h0]
  by_cases h1:m.1=b
  ·rw[if_pos h1];simp[h1];omega
  ·rw[if_neg h1]
   simp only[Bool.not_eq_true',decide_eq_false_iff_not]
   constructor
   ·intro h;exact .inr (.inr ⟨by omega,h1,hb,h⟩)
   ·rintro (h|h|h)
    ·exact absurd h h0
    ·exact absurd h.1 h1
    ·exact h.2.2.2
theorem Ef {f:ab} (hE:br f) (hfr:∀b∈f.blocks,∀p∈b.phis,∀c∈p.from_,0≤c∧c<f.blocks.length):jC f=rt f:=by
 unfold jC rt
 by_cases hA:xb f
 ·have hall:(fZ (au f) f.blocks.length).contains false=false:=(k8 hE).2 hA
  rw[hall]
  have hrch:∀c:Int,0≤c→c<f.blocks.length→tj (au f) c:=fun c h0 h1=>by
   have:=hA c.toNat (by omega)
   rwa [show ((c.toNat:Nat):Int)=c by omega] at this
  have:(List.range f.blocks.length).all (JZ f)=DO f:=by
   unfold DO
   rw[qz,w7,w7]
   refine forall_congr' fun i=>?_
   constructor
   all_goals
    intro h hi
    have hi2:=List.mem_range.1 hi
    have h:=h hi
    have hget:f.blocks[i]?=some f.blocks[i]:=qq hi2
    have hmem:=qu hi2
    have e1:f.blocks[i].phis.all (JW f)=f.blocks[i].phis.all (Lh f):=by
     rw[qz,w7,w7]
     refine forall_congr' fun p=>forall_congr' fun hp=>?_
     unfold JW Lh
     rw[w7,w7]
     refine forall_congr' fun q=>forall_congr' fun hq=>?_
     have hc:=hfr _ hmem p hp q.2 (List.of_mem_zip hq).2
     rw[mF hE _ _ (hrch q.2 hc.1 hc.2)]
    have e2:f.blocks[i].insts.zipIdx.all (JX f i)=f.blocks[i].insts.zipIdx.all (J7 f i):=by
     rw[qz,w7,w7]
     refine forall_congr' fun x=>forall_congr' fun _=>?_
     unfold JX J7
     rw[w7,w7]
     refine forall_congr' fun v=>forall_congr' fun _=>?_
     rw[mF hE _ _ (hA i hi2)]
    have e3:JY f i f.blocks[i]=Li f i f.blocks[i]:=by unfold JY Li;rw[mF hE _ _ (hA i hi2)]
    have e:nz f i f.blocks[i]=Cb f i f.blocks[i]:=by
     unfold nz Cb;rw[e1,e2,e3];simp[hA i hi2,Bool.and_assoc]
    first
     |(rw[mE hget,e] at h;rw[si hget];exact h)
     |(rw[si hget,←e] at h;rw[mE hget];exact h)
  rw[this]
  simp
 ·have h1:(fZ (au f) f.blocks.length).contains false=true:=by
   cases h:(fZ (au f) f.blocks.length).contains false with
   |true=>rfl
   |false=>exact absurd ((k8 hE).1 h) hA
  have h2:(List.range f.blocks.length).all (JZ f)=false:=by
   rw[Bool.eq_false_iff]
   intro h
   apply hA
   intro i hi
   have:=List.all_eq_true.1 h i (List.mem_range.2 hi)
   rw[mE (qq hi)] at this
   unfold nz at this
   simp only[w6,wa] at this
   exact this.1
  rw[h1,h2]
  simp
end
section
open Go.Proofs.Tryz
abbrev lC:=Int × Int
def cG (x:Int):Prop:=-9223372036854775808≤x∧x≤9223372036854775807
instance (x:Int):Decidable (cG x):=by unfold cG;infer_instance
def Eg (r:lC):Prop:=cG r.1∧cG r.2
def Lq:lC:=(1,0)
def Ki (lo hi:Int):lC:=if hi<lo then Lq else (lo,hi)
def Lt (a b:Int):Int:=if b<a then b else a
def Lu (a b:Int):Int:=if a<b then b else a
def Kj (a b:lC):lC:=if a.2<a.1 then Ki b.1 b.2 else if b.2<b.1 then a else (Lt a.1 b.1,Lu a.2 b.2)
def qM (k:Nat) (x y:Int):Int:=if k=0 then x+y else if k=1 then x - y else x*y
def fz (k:Nat) (x y:Int):Prop:=cG (qM k x y)
instance (k:Nat) (x y:Int):Decidable (fz k x y):=by unfold fz;infer_instance
def LG (n:Int):lC:=(n,n)
def xw (k:Nat) (a b:lC):Prop:=fz k a.1 b.1∧fz k a.1 b.2∧fz k a.2 b.1∧fz k a.2 b.2
instance (k:Nat) (a b:lC):Decidable (xw k a b):=by unfold xw;infer_instance
theorem Gt {x y:Nat} (hy:0<y) (l:Nat):x≤l / y↔x*y≤l:=Nat.le_div_iff_mul_le hy
theorem qN (a b:Int) (l:Nat):a.natAbs≤l / b.natAbs↔(b=0∧a=0)∨(b≠0∧(a*b).natAbs≤l):=by
 by_cases hb:b=0
 ·subst hb;simp
 ·rw[Gt (by omega),Int.natAbs_mul];simp[hb]
theorem Eh {a b:Int} (ha:a≠0) (hb:b≠0):(0<a*b↔((a<0)↔(b<0)))∧a*b≠0:=by
 refine ⟨?_,Int.mul_ne_zero ha hb⟩
 rcases Int.lt_or_gt_of_ne ha with h1|h1<;>rcases Int.lt_or_gt_of_ne hb with h2|h2
 ·have:=Int.mul_pos_of_neg_of_neg h1 h2;simp[this,h1,h2]
 ·have:=Int.mul_neg_of_neg_of_pos h1 h2
  constructor
  ·intro h;omega
  ·intro h;have:=h.1 h1;omega
 ·have:=Int.mul_neg_of_pos_of_neg h1 h2
  constructor
  ·intro h;omega
  ·intro h;have:=h.2 h2;omega
 ·have:=Int.mul_pos h1 h2
  constructor
  ·intro _;constructor<;>intro h<;>omega
  ·intro _;exact this
theorem I5 (a b:Int) (ha:a≠0) (hb:b≠0):(a.natAbs≤(if decide (a<0)=decide (b<0) then 9223372036854775807 else 9223372036854775808) / b.natAbs)↔fz 2 a b:=by
 have hs:=Eh ha hb
 rw[qN]
 unfold fz cG
 have e:qM 2 a b=a*b:=rfl
 rw[e]
 simp only[hb,false_and,false_or,ne_eq,not_false_eq_true,true_and]
 by_cases h:decide (a<0)=decide (b<0)
 ·rw[if_pos h]
  have:(a<0)↔(b<0):=by simpa using h
  have h1:=hs.1.2 this
  omega
 ·rw[if_neg h]
  have:¬((a<0)↔(b<0)):=by simpa using h
  have h1:¬0<a*b:=fun h2=>this (hs.1.1 h2)
  omega
end
section
open Go.Proofs.Tryz
def Kk (r s:lC):Prop:=r.2<r.1∨(s.1≤r.1∧r.2≤s.2)
end
section
open Go.Proofs.Tryz
end
section
open Go.Proofs.Tryz
end
section
open Go.Proofs.Tryz
def ra (rs:List lC) (i:Nat):lC:=(rs[i]?).getD (0,0)
end
section
open Go.Proofs.Tryz
def lv (l:List lC) (v:Int):lC:=(l[v.toNat]?).getD Lq
def nrm (r:lC):Prop:=r.2<r.1→r=Lq
structure Kl (n:Nat) (rule:List lC→Int→lC) (vs:List Int):Prop where
 mono:∀l l' v,l.length=n→l'.length=n→(∀u:Int,0≤u→Kk (lv l u) (lv l' u))→(∀u:Int,0≤u→Eg (lv l u))→(∀u:Int,0≤u→Eg (lv l' u))→v∈vs→Kk (rule l v) (rule l' v)
 ok:∀l v,l.length=n→(∀u:Int,0≤u→Eg (lv l u))→v∈vs→Eg (rule l v)
 rng:∀v∈vs,0≤v∧v<n
end
section
open Go.Proofs.Tryz
section
variable {n:Nat} {rule:List lC→Int→lC} {widn:Nat→Int→Option lC} {vs:List Int} (hR:Kl n rule vs) (hw:∀i v t,widn i v=some t→Eg t)
include hR hw
end
end
section
open Go.Proofs.Tryz
end
section
open Go.Proofs.Tryz
theorem gJ {f:ab} {v:Int} {m:pZ}:m∈bq f v↔∃(i:Nat) (b:aB),f.blocks[i]?=some b∧m∈jU v i b:=by
 unfold bq
 rw[List.mem_flatMap]
 constructor
 ·rintro ⟨⟨b,i⟩,h1,h2⟩;exact ⟨i,b,List.mem_zipIdx_iff_getElem?.1 h1,h2⟩
 ·rintro ⟨i,b,h1,h2⟩;exact ⟨(b,i),List.mem_zipIdx_iff_getElem?.2 h1,h2⟩
theorem Cz {f:ab} {v:Int} (h:0≤(bx f v).1):bx f v∈bq f v:=by
 unfold bx at h ⊢
 cases hm:bq f v with
 |nil=>rw[hm] at h;simp at h
 |cons x l=>simp
theorem Ei {f:ab} {v:Int} {m:pZ} (hl:(bq f v).length≤1) (h:m∈bq f v):bx f v=m:=by
 unfold bx
 cases hm:bq f v with
 |nil=>rw[hm] at h;cases h
 |cons x l=>
  rw[hm] at h hl
  cases l with
  |nil=>simp at h;simp[h]
  |cons y l=>simp at hl
end
section
open Go.Proofs.Tryz
end
section
open Go.Proofs.Tryz
def It (q:Int):Prop:=21≤q∧q≤23
instance (q:Int):Decidable (It q):=by unfold It;infer_instance
end
section
open Go.Proofs.Tryz
end
section
open Go.Proofs.Tryz
section
variable {n:Nat} {rule:List lC→Int→lC} {vs:List Int} {phi:Int→Prop} {rank:Int→Nat}
end
section
variable {n:Nat} {rule:List lC→Int→lC} {vs:List Int} {phi:Int→Prop} {t:Int→lC}
end
end
section
open Go.Proofs.Tryz
def Gu (h:lC × Bool) (n:Int) (fits:Bool) (e:Int):lC × Bool:=(Kj h.1 (LG (if fits then n else e)),h.2||!fits)
def h4 (h:lC × Bool) (a b:lC) (n:Int→Int→Int) (fit:Int→Int→Bool) (e:Int→Int→Int):lC × Bool:=
 Gu (Gu (Gu (Gu h (n a.1 b.1) (fit a.1 b.1) (e a.1 b.1)) (n a.1 b.2) (fit a.1 b.2) (e a.1 b.2)) (n a.2 b.1) (fit a.2 b.1) (e a.2 b.1)) (n a.2 b.2) (fit a.2 b.2) (e a.2 b.2)
instance (k:Nat) (x y:Int):Decidable (fz k x y):=by unfold fz cG;infer_instance
instance (k:Nat) (a b:lC):Decidable (xw k a b):=by unfold xw;infer_instance
end
section
open Go.Proofs.Tryz
open Go.Proofs
theorem lW {x:Int} (h:cG x):(if x<0 then IntKind.u64.wrap (0 - IntKind.u64.wrap x) else IntKind.u64.wrap x)=((x.natAbs:Nat):Int):=by
 unfold cG at h
 unfold IntKind.wrap;simp[IntKind.bits,IntKind.signed];split<;>omega
end
section
open Go.Proofs.Tryz
open Go.Proofs
theorem o7 (z:Int):IntKind.i64.wrap z=(z+9223372036854775808) % 18446744073709551616 - 9223372036854775808:=by
 unfold IntKind.wrap;simp[IntKind.bits,IntKind.signed];(try split)<;>omega
theorem o8 (z:Int):IntKind.u64.wrap z=z % 18446744073709551616:=by
 unfold IntKind.wrap;simp[IntKind.bits,IntKind.signed]
theorem CA (x y:Int):IntKind.i64.wrap (IntKind.u64.wrap (IntKind.u64.wrap x+IntKind.u64.wrap y))=IntKind.i64.wrap (x+y):=by
 simp only[o7,o8];omega
theorem CB (x y:Int):IntKind.i64.wrap (IntKind.u64.wrap (IntKind.u64.wrap x - IntKind.u64.wrap y))=IntKind.i64.wrap (x - y):=by
 simp only[o7,o8];omega
theorem CC (x y:Int):IntKind.i64.wrap (IntKind.u64.wrap (IntKind.u64.wrap x*IntKind.u64.wrap y))=IntKind.i64.wrap (x*y):=by
 simp only[o7,o8]
 rw[←Int.mul_emod];omega
theorem CD (x:Int):IntKind.i64.wrap (IntKind.u64.wrap (0 - IntKind.u64.wrap x))=IntKind.i64.wrap (x.tdiv (-1)):=by
 rw[show x.tdiv (-1)=-x by rw[Int.tdiv_neg,Int.tdiv_one]]
 simp only[o7,o8];omega
theorem Lv {x y:Int} (hx:cG x) (hx0:x≠0) (hy0:y≠0):decide ((x.natAbs:Int)≤IntKind.u64.wrap ((if (decide (x<0) == decide (y<0))=true then 9223372036854775807 else 9223372036854775808:Int).tdiv (y.natAbs:Int)))=decide (fz 2 x y):=by
 rw[decide_eq_decide,←I5 x y hx0 hy0]
 obtain ⟨l,hl⟩:∃l:Nat,(if decide (x<0)=decide (y<0) then 9223372036854775807 else 9223372036854775808)=l:=⟨_,rfl⟩
 have hl2:(if (decide (x<0) == decide (y<0))=true then 9223372036854775807 else 9223372036854775808:Int)=(l:Int):=by
  rw[←hl]
  by_cases h:decide (x<0)=decide (y<0)
  ·rw[if_pos h,if_pos (by simpa using h)];rfl
  ·rw[if_neg h,if_neg (by simpa using h)];rfl
 have hll:l≤9223372036854775808:=by rw[←hl];split<;>omega
 rw[hl,hl2,show ((l:Int)).tdiv (y.natAbs:Int)=((l / y.natAbs:Nat):Int) from rfl,o8]
 have h3:=Nat.div_le_self l y.natAbs
 generalize l / y.natAbs=q at h3 ⊢
 omega
end
section
open Go.Proofs.Tryz
structure GS where
 ints:List Int
 bools:List Bool
 arrs:List Int
 arrays:List (List Int)
 blk:Int
 pc:Nat
 en:Int
 val:Int
 tr:Int
 trace:List Int
 st:Nat
 ck:Nat→Nat
 ended:Bool
structure vP where
 int:Int
 b:Bool
 arr:Int
structure vb where
 args:List vP
 arrays:List (List Int)
def vi (l:List Int) (v:Int):Int:=(l[v.toNat]?).getD 0
def xx (x:bc):Int:=(x.args[0]?).getD 0
def Ej (x:bc):Int:=(x.args[1]?).getD 0
def xy (x:bc):Int:=(x.args[2]?).getD 0
def ga (s:GS) (a:Int):List Int:=(s.arrays[a.toNat]?).getD []
def dp (s:GS) (a i:Int):Bool:=decide (0≤a∧a<s.arrays.length∧0≤i∧i<(ga s a).length)
def Ek (l:List Int) (ints:List Int):Int:=if 1<l.length then vi ints ((l[1]?).getD 0) else 0
def ed (s:GS) (op:Int) (l:List Int):Bool:=
 if op=18 then dp s (vi s.arrs ((l[0]?).getD 0)) (Ek l s.ints)
 else if op=19 then decide (0≤vi s.arrs ((l[0]?).getD 0))
 else if op=20 then decide (vi s.ints ((l[0]?).getD 0)≠0)
 else if op=21 then decide (fz 0 (vi s.ints ((l[0]?).getD 0)) (Ek l s.ints))
 else if op=22 then decide (fz 1 (vi s.ints ((l[0]?).getD 0)) (Ek l s.ints))
 else if op=23 then decide (fz 2 (vi s.ints ((l[0]?).getD 0)) (Ek l s.ints))
 else decide (0≤vi s.ints ((l[0]?).getD 0)∧vi s.ints ((l[0]?).getD 0)≤64)
def ij (s:GS) (t:Nat):GS:={ s with ck:=fun i=>if i=t then s.ck i+1 else s.ck i }
def cP (s:GS) (e:Int):GS:={ s with en:=e,ended:=true }
def El (s:GS) (t:Int):GS:={ s with en:=1,tr:=t,ended:=true }
def stI (s:GS) (d v:Int):GS:={ s with ints:=s.ints.set d.toNat v }
def stB (s:GS) (d:Int) (v:Bool):GS:={ s with bools:=s.bools.set d.toNat v }
def stA (s:GS) (d v:Int):GS:={ s with arrs:=s.arrs.set d.toNat v }
def Em (a b:Int):Int:=IntKind.i64.wrap (a.tdiv b)
def vQ (a b:Int):Int:=if b=-1 then 0 else IntKind.i64.wrap (a - IntKind.i64.wrap (IntKind.i64.wrap (a.tdiv b)*b))
def aG (s:GS) (x:bc):Int:=vi s.ints (xx x)
def bG (s:GS) (x:bc):Int:=vi s.ints (Ej x)
def pG (s:GS) (x:bc):Bool:=gb s.bools (xx x)
def qG (s:GS) (x:bc):Bool:=gb s.bools (Ej x)
def rG (s:GS) (x:bc):Int:=vi s.arrs (xx x)
def doG (s:GS) (x:bc):GS:=
 if x.op=0 then stI s x.dst x.num
 else if x.op=1∨x.op=25∨x.op=26 then stA (stB (stI s x.dst (aG s x)) x.dst (pG s x)) x.dst (rG s x)
 else if x.op=2 then stI s x.dst (IntKind.i64.wrap (qM 0 (aG s x) (bG s x)))
 else if x.op=3 then stI s x.dst (IntKind.i64.wrap (qM 1 (aG s x) (bG s x)))
 else if x.op=4 then stI s x.dst (IntKind.i64.wrap (qM 2 (aG s x) (bG s x)))
 else if x.op=5 then (if bG s x=0 then cP s 2 else stI s x.dst (Em (aG s x) (bG s x)))
 else if x.op=6 then (if bG s x=0 then cP s 2 else stI s x.dst (vQ (aG s x) (bG s x)))
 else if x.op=7 then stB s x.dst (decide (aG s x=bG s x))
 else if x.op=8 then stB s x.dst (decide (aG s x<bG s x))
 else if x.op=9 then stB s x.dst (decide (aG s x≤bG s x))
 else if x.op=10 then stB s x.dst (!pG s x)
 else if x.op=11 then stB s x.dst (pG s x&&qG s x)
 else if x.op=12 then (if rG s x<0 then cP s 2 else stI s x.dst ((ga s (rG s x)).length))
 else if x.op=13 then (if dp s (rG s x) (bG s x)=true then stI s x.dst (vi (ga s (rG s x)) (bG s x)) else cP s 2)
 else if x.op=14 then (if dp s (rG s x) (bG s x)=true then { s with arrays:=s.arrays.set (rG s x).toNat ((ga s (rG s x)).set (bG s x).toNat (vi s.ints (xy x))) } else cP s 2)
 else if x.op=15 then (if aG s x<0∨64<aG s x then cP s 2 else if 32≤s.arrays.length then cP s 3 else stA { s with arrays:=s.arrays++[List.replicate (aG s x).toNat 0] } x.dst s.arrays.length)
 else if x.op=16 then stA s x.dst (-1)
 else (if 4096≤s.trace.length then cP s 3 else { s with trace:=s.trace++[aG s x] })
def bV (s:GS) (x:bc):GS:=
 if 18≤x.op∧x.op≤24 then (if ed s x.op x.args=true then ij s (x.op - 17).toNat else El (ij s (x.op - 17).toNat) (x.op - 17))
 else doG s x
def blkG (f:ab) (b:Int):aB:=(f.blocks[b.toNat]?).getD ⟨⟨#[]⟩,[],[],⟨2,0,0,0⟩⟩
def bv (p:bu) (b:Int):Int:=((p.from_.zip p.args).find? fun q=>decide (q.1=b)).elim (-1) (·.2)
def assign (s t:GS) (p:bu):GS:=stA (stB (stI t p.dst (vi s.ints (bv p s.blk))) p.dst (gb s.bools (bv p s.blk))) p.dst (vi s.arrs (bv p s.blk))
def goG (s:GS) (dst_:Int):GS:={ s with blk:=dst_,pc:=0 }
def dB (f:ab) (s:GS) (dst_:Int):GS:=
 if (blkG f dst_).phis.all (fun p=>decide (0≤bv p s.blk))=true then goG ((blkG f dst_).phis.foldl (assign s) s) dst_ else cP (goG s dst_) 2
def gc (f:ab) (s:GS):Int:=if (blkG f s.blk).term.kind=0∨gb s.bools (blkG f s.blk).term.var=true then (blkG f s.blk).term.to0 else (blkG f s.blk).term.to1
def cU (f:ab) (s:GS):GS:=
 match (blkG f s.blk).insts[s.pc]? with
 |some x=>bV { s with pc:=s.pc+1,st:=s.st+1 } x
 |none=>if (blkG f s.blk).term.kind=2 then cP { s with st:=s.st+1,val:=vi s.ints (blkG f s.blk).term.var } 0 else dB f { s with st:=s.st+1 } (gc f s)
def df (f:ab):Nat→GS→GS
 |0,s=>s
 |k+1,s=>if s.ended=true then s else df f k (cU f s)
def nT (f:ab) (i:Nat):Int:=((f.vars[i]?).map (·.ty)).getD 0
def o9 (f:ab) (i:Nat) (a:vP):Int:=if nT f i=0 then a.int else 0
def pa (f:ab) (i:Nat) (a:vP):Bool:=if nT f i=0 then false else if nT f i=1 then a.b else false
def nA (f:ab) (i:Nat) (a:vP):Int:=if nT f i=0 then -1 else if nT f i=1 then -1 else a.arr
def cM {α β:Type} (g:Nat→α→β) (d:β) (n:Nat) (l:List α):List β:=l.zipIdx.map (fun q=>g q.2 q.1)++List.replicate (n - l.length) d
def dF (f:ab) (i:vb):GS:=⟨cM (o9 f) 0 f.vars.length i.args,cM (pa f) false f.vars.length i.args,cM (nA f) (-1) f.vars.length i.args,i.arrays,0,0,3,0,0,[],0,fun _=>0,false⟩
structure bB (f:ab) (s:GS):Prop where
 li:s.ints.length=f.vars.length
 lb:s.bools.length=f.vars.length
 la:s.arrs.length=f.vars.length
 i64:∀x∈s.ints,cG x
 arr:∀x∈s.arrs,-1≤x∧x<s.arrays.length
 ls:s.arrays.length≤40
 lr:∀r∈s.arrays,r.length≤100
 r64:∀r∈s.arrays,∀x∈r,cG x
 lt:s.trace.length≤4096
 b0:0≤s.blk
 b1:s.blk<f.blocks.length
 pc:s.pc≤(blkG f s.blk).insts.length
theorem fa {l:List Int} {v:Int} (h1:v<l.length) (h0:0≤v):l[v.toNat]?=some (vi l v):=by
 unfold vi;rw[qq (by omega)];rfl
theorem I6 {l:List Int} {v:Int} (h1:v<l.length) (h0:0≤v):vi l v∈l:=w0 (fa h1 h0)
theorem rF {l:List Int} {v:Int} (h:∀x∈l,cG x):cG (vi l v):=by
 unfold vi
 cases e:l[v.toNat]? with
 |none=>exact ⟨by decide,by decide⟩
 |some x=>exact h x (w0 e)
theorem gK {s:GS} {a:Int} (h0:0≤a) (h1:a<s.arrays.length):s.arrays[a.toNat]?=some (ga s a):=by
 unfold ga;rw[qq (by omega)];rfl
theorem nU {s:GS} {a:Int} (h0:0≤a) (h1:a<s.arrays.length):ga s a∈s.arrays:=w0 (gK h0 h1)
theorem gf {α:Type} {l:List α} {n:Nat} {a x:α} (h:x∈l.set n a):x∈l∨x=a:=List.mem_or_eq_of_mem_set h
theorem bB.stI {f:ab} {s:GS} (h:bB f s) {d v:Int} (hv:cG v):bB f (stI s d v):=
 ⟨by simp[Go.Proofs.YtjpnhkmfhlnpcaaGreatDoor.stI,h.li],h.lb,h.la,fun x hx=>(gf hx).elim (h.i64 x) (fun e=>e▸hv),h.arr,h.ls,h.lr,h.r64,h.lt,h.b0,h.b1,h.pc⟩
theorem bB.stB {f:ab} {s:GS} (h:bB f s) {d:Int} {v:Bool}:bB f (stB s d v):=
 ⟨h.li,by simp[Go.Proofs.YtjpnhkmfhlnpcaaGreatDoor.stB,h.lb],h.la,h.i64,h.arr,h.ls,h.lr,h.r64,h.lt,h.b0,h.b1,h.pc⟩
theorem bB.stA {f:ab} {s:GS} (h:bB f s) {d v:Int} (hv:-1≤v∧v<s.arrays.length):bB f (stA s d v):=
 ⟨h.li,h.lb,by simp[Go.Proofs.YtjpnhkmfhlnpcaaGreatDoor.stA,h.la],h.i64,fun x hx=>(gf hx).elim (h.arr x) (fun e=>e▸hv),h.ls,h.lr,h.r64,h.lt,h.b0,h.b1,h.pc⟩
theorem bB.stop {f:ab} {s:GS} (h:bB f s) (e:Int):bB f (cP s e):=⟨h.li,h.lb,h.la,h.i64,h.arr,h.ls,h.lr,h.r64,h.lt,h.b0,h.b1,h.pc⟩
theorem bB.trap {f:ab} {s:GS} (h:bB f s) (t:Int):bB f (El s t):=⟨h.li,h.lb,h.la,h.i64,h.arr,h.ls,h.lr,h.r64,h.lt,h.b0,h.b1,h.pc⟩
theorem bB.bump {f:ab} {s:GS} (h:bB f s) (t:Nat):bB f (ij s t):=⟨h.li,h.lb,h.la,h.i64,h.arr,h.ls,h.lr,h.r64,h.lt,h.b0,h.b1,h.pc⟩
theorem I7 {f:ab} {s:GS} (h:bB f s) {v:Int} (h1:v<f.vars.length) (h0:0≤v):-1≤vi s.arrs v∧vi s.arrs v<s.arrays.length:=
 h.arr _ (I6 (by rw[h.la];exact h1) h0)
theorem nV {f:ab} {s:GS} (h:bB f s) {v:Int} (hn:v<f.vars.length∧0≤v):-1≤vi s.arrs v∧vi s.arrs v<s.arrays.length:=I7 h hn.1 hn.2
theorem kD {s:GS} {a i:Int}:dp s a i=true↔0≤a∧a<s.arrays.length∧0≤i∧i<(ga s a).length:=by unfold dp;rw[wa]
theorem xz (x:Int):cG (IntKind.i64.wrap x):=by
 rw[o7];unfold cG;omega
theorem I8 (a b:Int):cG (vQ a b):=by
 unfold vQ;split
 ·exact ⟨by decide,by decide⟩
 ·exact xz _
theorem dU {f:ab} {v:Int} (h:bl f v=true):v<f.vars.length∧0≤v:=by
 unfold bl at h;simp at h;exact ⟨h.2,h.1⟩
theorem eu.a0 {f:ab} {x:bc} (h:eu f x) (hl:0<x.args.length):xx x<f.vars.length∧0≤xx x:=by
 unfold xx;rw[qq hl];exact dU (h.args _ (qu hl))
theorem eu.a1 {f:ab} {x:bc} (h:eu f x) (hl:1<x.args.length):Ej x<f.vars.length∧0≤Ej x:=by
 unfold Ej;rw[qq hl];exact dU (h.args _ (qu hl))
theorem eu.a2 {f:ab} {x:bc} (h:eu f x) (hl:2<x.args.length):xy x<f.vars.length∧0≤xy x:=by
 unfold xy;rw[qq hl];exact dU (h.args _ (qu hl))
theorem I9:∀j:Nat,j<27→(bw (j:Int)).length=([0,1,2,2,2,2,2,2,2,2,1,2,1,2,3,1,0,1,2,1,1,2,2,2,1,2,2][j]?).getD 0:=by decide
theorem eu.argc {f:ab} {x:bc} (h:eu f x):x.args.length=([0,1,2,2,2,2,2,2,2,2,1,2,1,2,3,1,0,1,2,1,1,2,2,2,1,2,2][x.op.toNat]?).getD 0:=by
 have h1:=h.op
 obtain ⟨j,e⟩:∃j:Nat,x.op=(j:Int):=⟨x.op.toNat,by omega⟩
 rw[h.len,e,I9 j (by omega),Int.toNat_natCast]
theorem En:∀j:Nat,j<27→cQ (j:Int)=([true,true,true,true,true,true,true,true,true,true,true,true,true,true,false,true,true,false,false,false,false,false,false,false,false,true,true][j]?).getD false:=by decide
theorem eu.made {f:ab} {x:bc} (h:eu f x) (hm:([true,true,true,true,true,true,true,true,true,true,true,true,true,true,false,true,true,false,false,false,false,false,false,false,false,true,true][x.op.toNat]?).getD false=true):x.dst<f.vars.length∧0≤x.dst:=by
 have h1:=h.op
 obtain ⟨j,e⟩:∃j:Nat,x.op=(j:Int):=⟨x.op.toNat,by omega⟩
 rw[e,Int.toNat_natCast,←En j (by omega),←e] at hm
 rcases h.dst with g|g
 ·rw[g.1] at hm;cases hm
 ·exact dU g.2.2
theorem bB.doG {f:ab} {s:GS} (h:bB f s) {x:bc} (hx:eu f x) (h64:cG x.num):bB f (doG s x):=by
 have hc:=hx.argc
 have st:∀e,bB f (cP s e):=h.stop
 have wr:∀d v,bB f (Go.Proofs.YtjpnhkmfhlnpcaaGreatDoor.stI s d (IntKind.i64.wrap v)):=fun _ _=>h.stI (xz _)
 have bo:∀d v,bB f (Go.Proofs.YtjpnhkmfhlnpcaaGreatDoor.stB s d v):=fun _ _=>h.stB
 unfold Go.Proofs.YtjpnhkmfhlnpcaaGreatDoor.doG
 by_cases e:x.op=0
 ·rw[if_pos e];exact h.stI h64
 rw[if_neg e];clear e
 by_cases e:x.op=1∨x.op=25∨x.op=26
 ·rw[if_pos e]
  refine bB.stA (s:=Go.Proofs.YtjpnhkmfhlnpcaaGreatDoor.stB (Go.Proofs.YtjpnhkmfhlnpcaaGreatDoor.stI s x.dst (aG s x)) x.dst (pG s x)) (h.stI (rF h.i64)).stB ?_
  exact nV h (hx.a0 (by rcases e with e|e|e<;>(rw[e] at hc;rw[hc];decide)))
 rw[if_neg e];clear e
 by_cases e:x.op=2
 ·rw[if_pos e];exact wr _ _
 rw[if_neg e];clear e
 by_cases e:x.op=3
 ·rw[if_pos e];exact wr _ _
 rw[if_neg e];clear e
 by_cases e:x.op=4
 ·rw[if_pos e];exact wr _ _
 rw[if_neg e];clear e
 by_cases e:x.op=5
 ·rw[if_pos e]
  split
  ·exact st 2
  ·exact wr _ _
 rw[if_neg e];clear e
 by_cases e:x.op=6
 ·rw[if_pos e]
  split
  ·exact st 2
  ·exact h.stI (I8 _ _)
 rw[if_neg e];clear e
 by_cases e:x.op=7
 ·rw[if_pos e];exact bo _ _
 rw[if_neg e];clear e
 by_cases e:x.op=8
 ·rw[if_pos e];exact bo _ _
 rw[if_neg e];clear e
 by_cases e:x.op=9
 ·rw[if_pos e];exact bo _ _
 rw[if_neg e];clear e
 by_cases e:x.op=10
 ·rw[if_pos e];exact bo _ _
 rw[if_neg e];clear e
 by_cases e:x.op=11
 ·rw[if_pos e];exact bo _ _
 rw[if_neg e];clear e
 by_cases e:x.op=12
 ·rw[if_pos e]
  split
  ·exact st 2
  ·rename_i hr
   have hl:=h.lr _ (nU (by omega) (nV h (hx.a0 (by rw[e] at hc;rw[hc];decide))).2:ga s (rG s x)∈s.arrays)
   exact h.stI ⟨by omega,by omega⟩
 rw[if_neg e];clear e
 by_cases e:x.op=13
 ·rw[if_pos e]
  split
  ·rename_i hp
   obtain ⟨h1,h2,_⟩:=kD.1 hp
   exact h.stI (rF (h.r64 _ (nU h1 h2)))
  ·exact st 2
 rw[if_neg e];clear e
 by_cases e:x.op=14
 ·rw[if_pos e]
  split
  ·rename_i hp
   obtain ⟨h1,h2,_⟩:=kD.1 hp
   refine ⟨h.li,h.lb,h.la,h.i64,fun y hy=>by simpa using h.arr y hy,by simpa using h.ls,fun r hr=>?_,fun r hr=>?_,h.lt,h.b0,h.b1,h.pc⟩
   ·rcases gf hr with hr|hr
    ·exact h.lr r hr
    ·rw[hr,List.length_set];exact h.lr _ (nU h1 h2)
   ·rcases gf hr with hr|hr
    ·exact h.r64 r hr
    ·intro y hy
     rw[hr] at hy
     rcases gf hy with hy|hy
     ·exact h.r64 _ (nU h1 h2) y hy
     ·rw[hy];exact rF h.i64
  ·exact st 2
 rw[if_neg e];clear e
 by_cases e:x.op=15
 ·rw[if_pos e]
  split
  ·exact st 2
  ·rename_i ha
   split
   ·exact st 3
   ·rename_i hs
    refine bB.stA (s:={ s with arrays:=s.arrays++[List.replicate (aG s x).toNat 0] }) ⟨h.li,h.lb,h.la,h.i64,fun y hy=>?_,?_,fun r hr=>?_,fun r hr=>?_,h.lt,h.b0,h.b1,h.pc⟩ ?_
    ·have:=h.arr y hy
     simp only[qw,List.length_singleton];omega
    ·simp only[qw,List.length_singleton];omega
    ·rcases List.mem_append.1 hr with hr|hr
     ·exact h.lr r hr
     ·rw[List.mem_singleton.1 hr,List.length_replicate];omega
    ·rcases List.mem_append.1 hr with hr|hr
     ·exact h.r64 r hr
     ·intro y hy
      rw[List.mem_singleton.1 hr] at hy
      rw[(List.mem_replicate.1 hy).2];exact ⟨by decide,by decide⟩
    ·simp only[qw,List.length_singleton];omega
 rw[if_neg e];clear e
 by_cases e:x.op=16
 ·rw[if_pos e];exact h.stA ⟨by omega,by omega⟩
 rw[if_neg e];clear e
 split
 ·exact st 3
 ·rename_i ht
  exact ⟨h.li,h.lb,h.la,h.i64,h.arr,h.ls,h.lr,h.r64,by simp only[qw,List.length_singleton];omega,h.b0,h.b1,h.pc⟩
theorem bB.inst {f:ab} {s:GS} (h:bB f s) {x:bc} (hx:eu f x) (h64:cG x.num):bB f (bV s x):=by
 unfold bV
 split
 ·split
  ·exact h.bump _
  ·exact (h.bump _).trap _
 ·exact h.doG hx h64
structure pd (f:ab):Prop where
 pos:0<f.blocks.length
 phis:∀b∈f.blocks,∀p∈b.phis,nu f p
 insts:∀b∈f.blocks,∀x∈b.insts,eu f x∧cG x.num
 term:∀b∈f.blocks,bj f b.term=true
theorem sv {f:ab} {b:Int} (h0:0≤b) (h1:b<f.blocks.length):f.blocks[b.toNat]?=some (blkG f b):=by
 unfold blkG;rw[qq (by omega)];rfl
theorem sw {f:ab} {b:Int} (h0:0≤b) (h1:b<f.blocks.length):blkG f b∈f.blocks:=w0 (sv h0 h1)
theorem rH {p:bu} {b:Int} (h:0≤bv p b):bv p b∈p.args:=by
 unfold bv at h ⊢
 cases e:(p.from_.zip p.args).find? fun q=>decide (q.1=b) with
 |none=>rw[e] at h;simp at h
 |some q=>exact (List.of_mem_zip (List.mem_of_find?_eq_some e)).2
theorem bB.assign {f:ab} {s t:GS} (h:bB f s) (ht:bB f t) (ha:t.arrays=s.arrays) {p:bu} (hp:nu f p) (h0:0≤bv p s.blk):bB f (assign s t p)∧(assign s t p).arrays=s.arrays:=by
 have hv:=dU (List.all_eq_true.1 hp.2.2.2.1 _ (rH h0))
 refine ⟨bB.stA (s:=Go.Proofs.YtjpnhkmfhlnpcaaGreatDoor.stB (Go.Proofs.YtjpnhkmfhlnpcaaGreatDoor.stI t p.dst _) p.dst _) (ht.stI (rF h.i64)).stB ?_,ha⟩
 show _∧_<(t.arrays.length:Int)
 rw[ha];exact nV h hv
theorem bB.assigns {f:ab} {s:GS} (h:bB f s):∀(l:List bu) (t:GS),bB f t→t.arrays=s.arrays→(∀p∈l,nu f p∧0≤bv p s.blk)→bB f (l.foldl (Go.Proofs.YtjpnhkmfhlnpcaaGreatDoor.assign s) t)
 |[],t,ht,_,_=>ht
 |p::l,t,ht,ha,hl=>by
  obtain ⟨h1,h2⟩:=h.assign ht ha (hl p (.head _)).1 (hl p (.head _)).2
  exact h.assigns l _ h1 h2 fun q hq=>hl q (.tail _ hq)
theorem bB.goG {f:ab} {s:GS} (h:bB f s) {dst_:Int} (h0:0≤dst_) (h1:dst_<f.blocks.length):bB f (goG s dst_):=⟨h.li,h.lb,h.la,h.i64,h.arr,h.ls,h.lr,h.r64,h.lt,h0,h1,qt _⟩
theorem bB.enter {f:ab} {s:GS} (hR:pd f) (h:bB f s) {dst_:Int} (h0:0≤dst_) (h1:dst_<f.blocks.length):bB f (dB f s dst_):=by
 unfold dB
 split
 ·rename_i ha
  exact (h.assigns _ s h rfl fun p hp=>⟨hR.phis _ (sw h0 h1) p hp,w9 (List.all_eq_true.1 ha p hp)⟩).goG h0 h1
 ·exact (h.goG h0 h1).stop 2
theorem Gw {f:ab} {t:cC} (h:bj f t=true) (hk:¬t.kind=2):(0≤t.to0∧t.to0<f.blocks.length)∧(¬t.kind=0→t.kind=1∧(0≤t.to1∧t.to1<f.blocks.length)):=by
 unfold bj at h
 split at h
 ·rename_i e
  simp only[w6,du,wa] at h
  exact ⟨h.1.1,fun g=>absurd e g⟩
 ·split at h
  ·rename_i e
   simp only[w6,du,wa] at h
   exact ⟨h.1.2,fun _=>⟨e,h.2⟩⟩
  ·simp[hk] at h
theorem xA {f:ab} (hR:pd f) {s:GS} (h:bB f s) (hk:¬(blkG f s.blk).term.kind=2):0≤gc f s∧gc f s<f.blocks.length:=by
 have ht:=Gw (hR.term _ (sw h.b0 h.b1)) hk
 unfold gc
 split
 ·exact ht.1
 ·rename_i e
  exact (ht.2 fun g=>e (.inl g)).2
theorem bB.up {f:ab} {s:GS} (h:bB f s) (n:Nat) (v:Int):bB f { s with st:=n,val:=v }:=⟨h.li,h.lb,h.la,h.i64,h.arr,h.ls,h.lr,h.r64,h.lt,h.b0,h.b1,h.pc⟩
theorem bB.step {f:ab} (hR:pd f) {s:GS} (h:bB f s):bB f (cU f s):=by
 unfold cU
 split
 ·rename_i x hx
  obtain ⟨hi,h64⟩:=hR.insts _ (sw h.b0 h.b1) x (w0 hx)
  obtain ⟨hp,_⟩:=List.getElem?_eq_some_iff.1 hx
  exact bB.inst (s:={ s with pc:=s.pc+1,st:=s.st+1 }) ⟨h.li,h.lb,h.la,h.i64,h.arr,h.ls,h.lr,h.r64,h.lt,h.b0,h.b1,hp⟩ hi h64
 ·split
  ·exact (h.up _ _).stop 0
  ·rename_i hk
   obtain ⟨h0,h1⟩:=xA hR h hk
   exact bB.enter hR (s:={ s with st:=s.st+1 }) (h.up _ s.val) h0 h1
end
section
open Go.Proofs.Tryz
open Go.Proofs Go.Lib
theorem eO {f:ab} {x:Int} (h0:0≤x) (h1:x<f.blocks.length):bb f x∈f.blocks:=by
 unfold bb
 rw[qq (by omega)]
 exact qu _
theorem Gx {p:bu} (h:p.from_.length=p.args.length):(iF p).length=p.args.length:=by unfold iF;rw[List.length_zip,h];omega
theorem xB {p:bu} (h:p.from_.length=p.args.length) {a:Int} (ha:a∈p.args):∃x,(x,a)∈iF p:=by
 obtain ⟨i,hi,rfl⟩:=List.getElem_of_mem ha
 refine ⟨p.from_[i],w0 (i:=i) ?_⟩
 unfold iF
 rw[List.getElem?_zip_eq_some]
 exact ⟨qq (by omega),qq hi⟩
theorem tY {p:bu} (h:p.from_.length=p.args.length) {x:Int} (ha:x∈p.from_):∃a,(x,a)∈iF p:=by
 obtain ⟨i,hi,rfl⟩:=List.getElem_of_mem ha
 refine ⟨p.args[i]'(by omega),w0 (i:=i) ?_⟩
 unfold iF
 rw[List.getElem?_zip_eq_some]
 exact ⟨qq hi,qq (by omega)⟩
theorem pe {ν:Int→Int} {x:bc}:(jG ν x).dst=if 0≤x.dst then ν x.dst else x.dst:=rfl
theorem CE {V:Int→Prop} {ν:Int→Int} {f g:ab} (hv:∀v,V v→bp g (ν v)=bp f v):∀{l:List Int},(∀v∈l,V v)→(l.map ν).map (bp g)=l.map (bp f):=fun {l} hl=>by
 rw[List.map_map]
 exact List.map_congr_left fun v h=>hv v (hl v h)
section
variable {R V:Int→Prop} {β ν:Int→Int} {f g:ab} (h:lR R V β ν f g) (hS:bA f) (hV:∀v,V v→bl g (ν v)=true)
include h hS hV
theorem lR.blkP (hk:∀x,R x→∀p∈(bb f x).phis,∃z∈iF p,R z.1):∀c∈g.blocks,vB g c∧∃x,R x∧c=bb g (β x):=fun c hc=>by
 obtain ⟨y,hy,rfl⟩:=List.getElem_of_mem hc
 obtain ⟨x,hx,e⟩:=h.onto y (by omega) (by omega)
 have ec:g.blocks[y]=bb g (β x):=by rw[e];exact (eN (qq hy)).symm
 refine ⟨?_,x,hx,ec⟩
 rw[ec]
 have hr:=h.rng x hx
 have hb:=h.blk x hx
 obtain ⟨s1,s2,s3⟩:=hS.2.2.2.2.2 _ (eO hr.1.1 hr.1.2)
 have hB:∀{z:Int},R z→du g (β z)=true:=fun {z} hz=>by
  have:=(h.rng z hz).2
  unfold du;simp[this.1,this.2]
 refine ⟨fun q hq=>?_,fun z hz=>?_,?_⟩
 ·obtain ⟨i,hi,rfl⟩:=List.getElem_of_mem hq
  have hi2:i<(bb f x).phis.length:=by rw[←hb.nphi];exact hi
  obtain ⟨d1,d2,d3,k,k1,k2,k3,k4⟩:=hb.phi i _ _ (qq hi2) (qq hi)
  obtain ⟨w,hw,hwr⟩:=hk x hx _ (qu hi2)
  have hkl:0<k.length:=List.length_pos_of_mem ((k1 w).2 ⟨hw,hwr⟩)
  have hl:=k4.length_eq
  rw[Gx d3,qx] at hl
  refine ⟨by rw[d1];exact hV _ d2,d3.symm,by omega,?_,?_⟩
  ·rw[w7]
   intro a ha
   obtain ⟨t,ht⟩:=xB d3 ha
   obtain ⟨z,hz,e⟩:=List.mem_map.1 (k4.mem_iff.1 ht)
   rw[←(Prod.mk.inj e).2]
   exact hV _ (k3 z hz)
  ·rw[w7]
   intro a ha
   obtain ⟨t,ht⟩:=tY d3 ha
   obtain ⟨z,hz,e⟩:=List.mem_map.1 (k4.mem_iff.1 ht)
   rw[←(Prod.mk.inj e).1]
   exact hB ((k1 z).1 hz).2
 ·rw[hb.insts] at hz
  obtain ⟨x',hx',rfl⟩:=List.mem_map.1 hz
  obtain ⟨x1,x2,x3,x4⟩:=s2 x' hx'
  have hiv:=hb.instv x' hx'
  refine ⟨x1,x2,?_,?_⟩
  ·unfold lh at x3 ⊢
   rw[show (jG ν x').args.length=x'.args.length from qx ..,pe]
   by_cases h0:0≤x'.dst
   ·have hd:V x'.dst:=hiv _ (by unfold f9;rw[if_pos h0];simp)
    have h1:=hV _ hd
    have h2:0≤ν x'.dst:=(h.vty _ hd).2.1
    rw[if_pos h0,h1,show decide (ν x'.dst=-1)=false from w5 (by omega)]
    rw[show decide (x'.dst=-1)=false from w5 (by omega)] at x3
    simp only[Bool.or_eq_false_iff] at x3 ⊢
    exact ⟨x3.1,x3.2.1,by simp,x3.2.2.2⟩
   ·rw[if_neg h0]
    by_cases h1:x'.dst=-1
    ·rw[w4 h1] at x3 ⊢;exact x3
    ·rw[w5 h1] at x3
     simp only[Bool.or_eq_false_iff] at x3
     have:=x3.2.2.1
     rw[show bl f x'.dst=false by unfold bl;simp[h0]] at this
     cases this
  ·rw[w7]
   intro a ha
   obtain ⟨v,hv,rfl⟩:=List.mem_map.1 ha
   exact hV _ (hiv v (List.mem_append_left _ hv))
 ·rw[hb.term]
  have hend:∀c∈aU (bb f x).term,R c:=by rw[←eh hr.1.1 hr.1.2];exact h.cl x hx
  have htv:=hb.termv
  generalize (bb f x).term=t at s3 hend htv
  unfold bj at s3 ⊢
  unfold aU at hend
  unfold fx at htv
  unfold dT
  by_cases h0:t.kind=0
  ·rw[if_pos h0] at s3 hend ⊢
   dsimp only
   rw[if_pos h0]
   simp only[w6] at s3 ⊢
   exact ⟨⟨hB (hend _ (.head _)),s3.1.2⟩,s3.2⟩
  ·rw[if_neg h0] at s3 hend htv ⊢
   have hv:=hV _ (htv _ (.head _))
   by_cases h1:t.kind=1
   ·rw[if_pos h1] at s3 hend ⊢
    dsimp only
    rw[if_neg h0,if_pos h1]
    simp only[w6] at s3 ⊢
    have e0:=hB (hend t.to0 (by split<;>simp))
    refine ⟨⟨hv,e0⟩,?_⟩
    by_cases e:t.to0=t.to1
    ·rw[←e];exact e0
    ·exact hB (hend _ (by rw[if_neg e];simp))
   ·rw[if_neg h1] at s3 ⊢
    dsimp only
    rw[if_neg h0,if_neg h1]
    by_cases h2:t.kind=2
    ·rw[if_pos h2] at s3 ⊢
     simp only[w6] at s3 ⊢
     exact ⟨hv,s3.2⟩
    ·rw[if_neg h2] at s3;cases s3
theorem lR.typed (hk:∀x,R x→∀p∈(bb f x).phis,∃z∈iF p,R z.1) (hT:aT f=true) (h1:kR g=false) (h2:∀i (h:i<g.params.length),g.params[i]=(i:Int)) (h3:∀i (h:i<g.vars.length),Cm g i g.vars[i]) (h4:∀i (h:i<g.blocks.length),Cn g i g.blocks[i]) (h5:eb g.blocks≤1024):aT g=true:=by
 have hb:=h.blkP hS hV hk
 unfold aT
 rw[dS,w4 (p:=bA g) ⟨h1,h2,h3,h4,h5,fun c hc=>(hb c hc).1⟩,Bool.true_and,w7]
 intro c hc
 obtain ⟨_,x,hx,ec⟩:=hb c hc
 rw[ec]
 have hr:=h.rng x hx
 have hl:=h.blk x hx
 have hm:=eO hr.1.1 hr.1.2
 obtain ⟨s1,s2,s3⟩:=hS.2.2.2.2.2 _ hm
 have ht:=List.all_eq_true.1 (show f.blocks.all (fw f)=true by unfold aT at hT;rw[w6] at hT;exact hT.2) _ hm
 have hty:∀v,V v→bp g (ν v)=bp f v:=fun v hv=>(h.vty v hv).2.2
 unfold fw at ht ⊢
 simp only[w6] at ht ⊢
 obtain ⟨⟨t1,t2⟩,t3⟩:=ht
 rw[w7] at t1 t2
 refine ⟨⟨?_,?_⟩,?_⟩
 ·rw[w7]
  intro q hq
  obtain ⟨i,hi,rfl⟩:=List.getElem_of_mem hq
  have hi2:i<(bb f x).phis.length:=by rw[←hl.nphi];exact hi
  obtain ⟨d1,d2,d3,k,k1,k2,k3,k4⟩:=hl.phi i _ _ (qq hi2) (qq hi)
  have g:=t1 _ (qu hi2)
  unfold nt at g ⊢
  rw[Bool.not_eq_true',List.any_eq_false] at g ⊢
  intro a ha
  obtain ⟨t,ht⟩:=xB d3 ha
  obtain ⟨z,hz,e⟩:=List.mem_map.1 (k4.mem_iff.1 ht)
  rw[←(Prod.mk.inj e).2,d1,hty _ (k3 z hz),hty _ d2]
  exact g z.2 (List.of_mem_zip ((k1 z).1 hz).1).2
 ·rw[hl.insts,w7]
  intro z hz
  obtain ⟨x',hx',rfl⟩:=List.mem_map.1 hz
  have gg:=t2 x' hx'
  have hiv:=hl.instv x' hx'
  have hF:=lQ (s2 x' hx')
  have hd:0≤x'.dst→bp g (jG ν x').dst=bp f x'.dst:=fun h0=>by
   rw[pe,if_pos h0]
   exact hty _ (hiv _ (by unfold f9;rw[if_pos h0];simp))
  have hargs:∀v∈x'.args,V v:=fun v hv=>hiv v (List.mem_append_left _ hv)
  unfold ic at gg ⊢
  show (if x'.op=1 then decide (bp _ (jG ν x').dst=bp _ ((x'.args.map ν).headD 0)) else decide ((x'.args.map ν).map (bp _)=bw x'.op)&&(!cQ x'.op||decide (bp _ (jG ν x').dst=jS x'.op)))=true
  rw[CE hty hargs]
  have hmk:cQ x'.op=true→0≤x'.dst:=fun hm=>by
   rcases hF.dst with ⟨h2,_⟩|⟨_,_,h2⟩
   ·rw[h2] at hm;cases hm
   ·exact (dU h2).2
  split
  ·rename_i e
   rw[if_pos e] at gg
   have hl:=hF.argc
   rw[e] at hl
   rw[hd (hmk (by rw[e];decide))]
   match hxa:x'.args,hl with
   |[a],_=>
    rw[hxa] at gg
    show decide (bp f x'.dst=bp _ (ν a))=true
    rw[hty a (hargs a (by rw[hxa];exact .head _))]
    exact gg
  ·rename_i e
   rw[if_neg e] at gg
   simp only[w6,Bool.or_eq_true] at gg ⊢
   refine ⟨gg.1,?_⟩
   rcases gg.2 with k|k
   ·exact .inl k
   ·by_cases hmm:cQ x'.op=true
    ·right;rw[hd (hmk hmm)];exact k
    ·left;simpa using hmm
 ·rw[hl.term]
  have htv:=hl.termv
  have hend:∀c∈aU (bb f x).term,R c:=by rw[←eh hr.1.1 hr.1.2];exact h.cl x hx
  generalize (bb f x).term=t at t3 hend htv
  have hne:∀c,R c→¬c=0→¬β c=0:=fun c hc hn e=>hn (h.inj c 0 hc h.r0 (by rw[e,h.b0]))
  unfold cD at t3 ⊢
  unfold aU at hend
  unfold fx at htv
  unfold dT
  by_cases h0:t.kind=0
  ·rw[if_pos h0] at t3 hend ⊢
   dsimp only
   rw[if_pos h0]
   simp only[Bool.not_eq_true',decide_eq_false_iff_not] at t3 ⊢
   exact hne _ (hend _ (.head _)) t3
  ·rw[if_neg h0] at t3 hend htv ⊢
   have hv:=hty _ (htv _ (.head _))
   by_cases h1:t.kind=1
   ·rw[if_pos h1] at t3 hend ⊢
    dsimp only
    rw[if_neg h0,if_pos h1]
    simp only[w6,Bool.not_eq_true',decide_eq_false_iff_not] at t3 ⊢
    refine ⟨⟨by rw[hv];exact t3.1.1,hne _ (hend t.to0 (by split<;>simp)) t3.1.2⟩,?_⟩
    by_cases e:t.to0=t.to1
    ·rw[←e];exact hne _ (hend t.to0 (by split<;>simp)) t3.1.2
    ·exact hne _ (hend _ (by rw[if_neg e];simp)) t3.2
   ·rw[if_neg h1] at t3 ⊢
    dsimp only
    rw[if_neg h0,if_neg h1,hv];exact t3
omit h hS hV in
theorem tZ {R:Int→Prop} {β:Int→Int} (hi:∀x y,R x→R y→β x=β y→x=y) {l:List Int} (hl:∀c∈l,R c) {x:Int} (hx:R x):β x∈l.map β↔x∈l:=by
 rw[List.mem_map]
 exact ⟨fun ⟨c,hc,e⟩=>hi c x (hl c hc) hx e▸hc,fun h=>⟨x,h,rfl⟩⟩
omit hS hV in
theorem lR.joined (hD:∀x,R x→∀p∈(bb f x).phis,kT p) (hP:∀x,R x→∀p∈(bb f x).phis,p.from_.length=p.args.length) (hJ:ep f):ep g:=fun y hy q hq=>by
 obtain ⟨x,hx,e⟩:=h.onto y (by omega) (by omega)
 have ec:g.blocks[y]=bb g (β x):=by rw[e];exact (eN (qq hy)).symm
 rw[ec] at hq
 have hr:=h.rng x hx
 have hb:=h.blk x hx
 obtain ⟨i,hi,rfl⟩:=List.getElem_of_mem hq
 have hi2:i<(bb f x).phis.length:=by rw[←hb.nphi];exact hi
 have hpm:=qu hi2
 obtain ⟨d1,d2,d3,k,k1,k2,k3,k4⟩:=hb.phi i _ _ (qq hi2) (qq hi)
 have hpn:=hD x hx _ hpm
 have hj:(bb f x).phis[i].from_.Perm (bE (au f) f.blocks.length x):=by
  have hxl:x.toNat<f.blocks.length:=by omega
  have:=hJ x.toNat hxl (bb f x).phis[i] (by
   have e:f.blocks[x.toNat]=bb f x:=by unfold bb;rw[qq hxl];rfl
   rw[e];exact hpm)
  rwa [w8 hr.1.1] at this
 have hG:=h.okg.grph
 have hF:=h.okf.grph
 rw[←e]
 have efst:∀{p:bu},p.from_.length=p.args.length→(iF p).map (·.1)=p.from_:=fun {p} hp=>by
  unfold iF
  rw[List.map_fst_zip (by omega)]
 refine (List.perm_ext_iff_of_nodup ?_ (dy (fun b=>?_) _ _).1).2 fun c=>?_
 ·rw[←efst d3]
  refine (k4.map (·.1)).nodup_iff.2 ?_
  rw[List.map_map]
  have hkn:(k.map (·.1)).Nodup:=(k2.map _).nodup hpn
  have:∀l:List (Int × Int),(∀z∈l,R z.1)→(l.map (·.1)).Nodup→(l.map ((fun z:Int × Int=>z.1)∘fun z=>(β z.1,ν z.2))).Nodup:=by
   intro l
   induction l with
   |nil=>intro _ _;simp
   |cons z l ih=>
    intro h1 h2
    rw[List.map_cons,List.nodup_cons] at h2 ⊢
    refine ⟨fun hm=>?_,ih (fun z hz=>h1 z (.tail _ hz)) h2.2⟩
    obtain ⟨w,hw,e⟩:=List.mem_map.1 hm
    exact h2.1 (List.mem_map.2 ⟨w,hw,h.inj _ _ (h1 w (.tail _ hw)) (h1 z (.head _)) e⟩)
  exact this k (fun z hz=>((k1 z).1 hz).2) hkn
 ·exact cT g b
 ·rw[bW hG.toEOk hG.out,←efst d3,(k4.map (·.1)).mem_iff,List.map_map,List.mem_map]
  constructor
  ·rintro ⟨z,hz,e2⟩
   have e2:β z.1=c:=e2
   obtain ⟨z1,z2⟩:=(k1 z).1 hz
   rw[←e2,h.leads z2,tZ h.inj (h.cl _ z2) hx]
   exact (bW hF.toEOk hF.out).1 (hj.mem_iff.1 (by rw[←efst (hP x hx _ hpm)];exact List.mem_map_of_mem z1))
  ·intro hc
   by_cases hcr:0≤c∧c<g.blocks.length
   ·obtain ⟨w,hw,rfl⟩:=h.onto c hcr.1 hcr.2
    rw[h.leads hw,tZ h.inj (h.cl _ hw) hx] at hc
    have:=hj.mem_iff.2 ((bW hF.toEOk hF.out).2 hc)
    rw[←efst (hP x hx _ hpm)] at this
    obtain ⟨z,hz,e3⟩:=List.mem_map.1 this
    exact ⟨z,(k1 z).2 ⟨hz,by rw[e3];exact hw⟩,by show β z.1=_;rw[e3]⟩
   ·rw[hG.out c hcr] at hc;cases hc
end
end
end Go.Proofs.YtjpnhkmfhlnpcaaGreatDoor
