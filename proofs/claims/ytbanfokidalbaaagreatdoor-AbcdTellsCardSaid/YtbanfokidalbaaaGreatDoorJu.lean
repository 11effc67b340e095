/- A slice of one's own takes a row's place in a slice of slices. No conditions but bounds. -/
import Derived.Test.YtbanfokidalbaaaGreatDoorJt
import Derived.Test.YtbanfokidalbaaaGreatDoorJd
set_option linter.unusedVariables false
set_option linter.unusedSimpArgs false
set_option linter.unusedSectionVars false
namespace Go.Proofs.YtbanfokidalbaaaGreatDoor
section
open Go.Proofs.Tryz
open Go.Proofs Go.Lib Go.Shelf Go.RowKit
theorem rU:el prog 81 #[(0,1),(1,1)] [.int .i64 0,.int .i64 0]:=⟨_,_,Z8,X1,fun w=>by kernel_rfl,rfl⟩
variable {E:World}
set_option maxRecDepth 20000
theorem u4 (a b:b7):aJ prog E 27 [.int .i64 1,.agg (bg a),.agg (bg b)] (.bool (bU true a b)):=by
 refine zo func27 Z (by decide) Z<|ah<|yb (cs:=_) Z Z Z<|yb (cs:=_) Z Z Z<|ac Z<|z6<|zc<|ah<|ae Z8 Z ja Z Z<|ax jc Z<|ae Z8 Z ja Z Z<|ax jc Z<|aH Z Z<|z6<|zt Z (fun c1=>?_) (fun c1=>?_)
 ·refine ah<|ae Z8 Z ja Z Z<|ax jc Z<|ae Z8 Z ja Z Z<|ax jc Z<|aO Z Z<|ac Z<|z6<|zg<|zk (x:=.bool _) Z ?_
  exact jb (by unfold bU kX;simp_all)
 ·refine zd<|ah<|ae Z8 Z ja Z Z<|ax jc Z<|aj Z Z<|ai Z<|zm (s:=20) Z (fun c2=>?_) (fun c2=>?_)
  ·refine z8 Z Z c2<|aa Z<|z8 Z Z c2<|aO Z Z<|z8 Z Z c2<|ai Z<|zm (s:=23) Z (fun c3=>?_) (fun c3=>?_)
   ·refine z8 Z Z c3<|ae Z8 Z ji Z Z<|z8 Z Z c3<|ax jp Z<|z8 Z Z c3<|ae Z8 Z ji Z Z<|z8 Z Z c3<|ax jp Z<|z8 Z Z c3<|aO Z Z<|z8 Z Z c2<|ap Z c3 Z<|z8 Z Z c2<|ai Z<|zm (s:=30) Z (fun c4=>?_) (fun c4=>?_)
    ·refine z7 Z Z c4<|z7 Z Z c4<|z7 Z Z c4<|zb Z Z<|zb Z Z<|zb Z Z<|zb Z Z<|zb Z Z<|z7 Z Z c4<|z8 Z Z c2<|ap Z c4 Z<|ap Z c2 Z<|ac Z<|z6<|zg<|zk (x:=.bool _) Z ?_
     exact jb (by unfold bU kX;simp_all)
    ·refine z8 Z Z c4<|aa Z<|z8 Z Z c4<|aw Z Z<|z8 Z Z c4<|ai Z<|zm (s:=33) Z (fun c5=>?_) (fun c5=>?_)
     ·refine z8 Z Z c5<|ae Z8 Z ji Z Z<|z8 Z Z c5<|ax jp Z<|z8 Z Z c5<|ae Z8 Z ji Z Z<|z8 Z Z c5<|ax jp Z<|z8 Z Z c5<|aw Z Z<|z8 Z Z c4<|ap Z c5 Z<|z8 Z Z c2<|aq Z c4 Z<|ap Z c2 Z<|ac Z<|z6<|zg<|zk (x:=.bool _) Z ?_
      exact jb (by unfold bU kX;simp_all)
     ·refine z7 Z Z c5<|z7 Z Z c5<|z7 Z Z c5<|z7 Z Z c5<|z7 Z Z c5<|z8 Z Z c4<|aq Z c5 Z<|z8 Z Z c2<|aq Z c4 Z<|ap Z c2 Z<|ac Z<|z6<|zg<|zk (x:=.bool _) Z ?_
      exact jb (by unfold bU kX;simp_all)
   ·refine z7 Z Z c3<|z7 Z Z c3<|z7 Z Z c3<|z7 Z Z c3<|z7 Z Z c3<|z8 Z Z c2<|aq Z c3 Z<|z8 Z Z c2<|ai Z<|z8 Z Z Z<|aa Z<|z8 Z Z Z<|aw Z Z<|z8 Z Z Z<|ai Z<|zm (s:=33) Z (fun c6=>?_) (fun c6=>?_)
    ·refine z8 Z Z c6<|ae Z8 Z ji Z Z<|z8 Z Z c6<|ax jp Z<|z8 Z Z c6<|ae Z8 Z ji Z Z<|z8 Z Z c6<|ax jp Z<|z8 Z Z c6<|aw Z Z<|z8 Z Z Z<|ap Z c6 Z<|z8 Z Z c2<|aq Z Z Z<|ap Z c2 Z<|ac Z<|z6<|zg<|zk (x:=.bool _) Z ?_
     exact jb (by unfold bU kX;simp_all)
    ·refine z7 Z Z c6<|z7 Z Z c6<|z7 Z Z c6<|z7 Z Z c6<|z7 Z Z c6<|z8 Z Z Z<|aq Z c6 Z<|z8 Z Z c2<|aq Z Z Z<|ap Z c2 Z<|ac Z<|z6<|zg<|zk (x:=.bool _) Z ?_
     exact jb (by unfold bU kX;simp_all)
  ·refine z7 Z Z c2<|z7 Z Z c2<|z7 Z Z c2<|zb Z Z<|zb Z Z<|zb Z Z<|zb Z Z<|zb Z Z<|z7 Z Z c2<|z7 Z Z c2<|zb Z Z<|zb Z Z<|zb Z Z<|zb Z Z<|zb Z Z<|zb Z Z<|zb Z Z<|zb Z Z<|zb Z Z<|z7 Z Z c2<|aq Z c2 Z<|ac Z<|z6<|zg<|zk (x:=.bool _) Z ?_
   exact jb (by unfold bU kX;simp_all)
theorem u5 (a b:b7):aJ prog E 27 [.int .i64 (-1),.agg (bg a),.agg (bg b)] (.bool (bU false a b)):=by
 refine zo func27 Z (by decide) Z<|ah<|yb (cs:=_) Z Z Z<|yb (cs:=_) Z Z Z<|ac Z<|z6<|zc<|ah<|ae Z8 Z ja Z Z<|ax jc Z<|ae Z8 Z ja Z Z<|ax jc Z<|aH Z Z<|z6<|zt Z (fun c7=>?_) (fun c7=>?_)
 ·refine ah<|ae Z8 Z ja Z Z<|ax jc Z<|ae Z8 Z ja Z Z<|ax jc Z<|aO Z Z<|ac Z<|z6<|zg<|zk (x:=.bool _) Z ?_
  exact jb (by unfold bU kX;simp_all)
 ·refine zd<|ah<|ae Z8 Z ja Z Z<|ax jc Z<|aj Z Z<|ai Z<|zm (s:=20) Z (fun c8=>?_) (fun c8=>?_)
  ·refine z8 Z Z c8<|aa Z<|z8 Z Z c8<|aO Z Z<|z8 Z Z c8<|ai Z<|zm (s:=23) Z (fun c9=>?_) (fun c9=>?_)
   ·refine z8 Z Z c9<|ae Z8 Z ji Z Z<|z8 Z Z c9<|ax jp Z<|z8 Z Z c9<|ae Z8 Z ji Z Z<|z8 Z Z c9<|ax jp Z<|z8 Z Z c9<|aO Z Z<|z8 Z Z c8<|ap Z c9 Z<|z8 Z Z c8<|ai Z<|zm (s:=30) Z (fun c10=>?_) (fun c10=>?_)
    ·refine z7 Z Z c10<|z7 Z Z c10<|z7 Z Z c10<|zb Z Z<|zb Z Z<|zb Z Z<|zb Z Z<|zb Z Z<|z7 Z Z c10<|z8 Z Z c8<|ap Z c10 Z<|ap Z c8 Z<|ac Z<|z6<|zg<|zk (x:=.bool _) Z ?_
     exact jb (by unfold bU kX;simp_all)
    ·refine z8 Z Z c10<|aa Z<|z8 Z Z c10<|aw Z Z<|z8 Z Z c10<|ai Z<|zm (s:=33) Z (fun c11=>?_) (fun c11=>?_)
     ·refine z8 Z Z c11<|ae Z8 Z ji Z Z<|z8 Z Z c11<|ax jp Z<|z8 Z Z c11<|ae Z8 Z ji Z Z<|z8 Z Z c11<|ax jp Z<|z8 Z Z c11<|aw Z Z<|z8 Z Z c10<|ap Z c11 Z<|z8 Z Z c8<|aq Z c10 Z<|ap Z c8 Z<|ac Z<|z6<|zg<|zk (x:=.bool _) Z ?_
      exact jb (by unfold bU kX;simp_all)
     ·refine z7 Z Z c11<|z7 Z Z c11<|z7 Z Z c11<|z7 Z Z c11<|z7 Z Z c11<|z8 Z Z c10<|aq Z c11 Z<|z8 Z Z c8<|aq Z c10 Z<|ap Z c8 Z<|ac Z<|z6<|zg<|zk (x:=.bool _) Z ?_
      exact jb (by unfold bU kX;simp_all)
   ·refine z7 Z Z c9<|z7 Z Z c9<|z7 Z Z c9<|z7 Z Z c9<|z7 Z Z c9<|z8 Z Z c8<|aq Z c9 Z<|z8 Z Z c8<|ai Z<|z8 Z Z Z<|aa Z<|z8 Z Z Z<|aw Z Z<|z8 Z Z Z<|ai Z<|zm (s:=33) Z (fun c12=>?_) (fun c12=>?_)
    ·refine z8 Z Z c12<|ae Z8 Z ji Z Z<|z8 Z Z c12<|ax jp Z<|z8 Z Z c12<|ae Z8 Z ji Z Z<|z8 Z Z c12<|ax jp Z<|z8 Z Z c12<|aw Z Z<|z8 Z Z Z<|ap Z c12 Z<|z8 Z Z c8<|aq Z Z Z<|ap Z c8 Z<|ac Z<|z6<|zg<|zk (x:=.bool _) Z ?_
     exact jb (by unfold bU kX;simp_all)
    ·refine z7 Z Z c12<|z7 Z Z c12<|z7 Z Z c12<|z7 Z Z c12<|z7 Z Z c12<|z8 Z Z Z<|aq Z c12 Z<|z8 Z Z c8<|aq Z Z Z<|ap Z c8 Z<|ac Z<|z6<|zg<|zk (x:=.bool _) Z ?_
     exact jb (by unfold bU kX;simp_all)
  ·refine z7 Z Z c8<|z7 Z Z c8<|z7 Z Z c8<|zb Z Z<|zb Z Z<|zb Z Z<|zb Z Z<|zb Z Z<|z7 Z Z c8<|z7 Z Z c8<|zb Z Z<|zb Z Z<|zb Z Z<|zb Z Z<|zb Z Z<|zb Z Z<|zb Z Z<|zb Z Z<|zb Z Z<|z7 Z Z c8<|aq Z c8 Z<|ac Z<|z6<|zg<|zk (x:=.bool _) Z ?_
   exact jb (by unfold bU kX;simp_all)
theorem jE (up:Bool) (a b:b7):aJ prog E 27 [.int .i64 (JT up),.agg (bg a),.agg (bg b)] (.bool (bU up a b)):=by
 cases up
 ·exact u5 a b
 ·exact u4 a b
theorem sW (up:Bool) (a:b7) (n:Int) (ha:aP a.2) (hn:aP n):aJ prog E 54 [.int .i64 (JT up),.agg (bg a),.int .i64 n] (.agg (bg (gF up a n))):=by
 have h1:0<JT up↔up=true:=by cases up<;>decide
 have h2:JT up<0↔up=false:=by cases up<;>decide
 refine zo func54 Z (by decide) Z<|ah<|yb (cs:=_) Z Z Z<|zy (cs:=[.int .i64 0,.int .i64 0]) X1 Z Z<|fun i6=>z6<|zc<|ah<|ae Z8 Z ja Z Z<|ax jc Z<|aH Z Z<|z6<|zt Z (fun c=>?_) (fun c=>?_)
 ·refine ah<|ab Yc Z0 Z Z<|zq Z0 Z Z Z Z Z Z .head Z<|z6<|zg<|yw Z ⟨_,.head⟩ Yc Z0 Z ?_
  unfold gF;rw[if_neg (eB c)];rfl
 ·have hk:=eF c
  have h0:gF up a n=if dk 0 a.2 n then (1,a.2+n) else if decide (0<n)=up then (2,0) else (1,if 0<n then lc else mO):=if_pos hk
  rw[h0]
  refine zd<|zc<|ah<|ae Z8 Z ji Z Z<|ax jp Z<|aa Z<|ze (re (k:=0) (by decide) ha hn) Z<|z6<|zt Z (fun c2=>?_) (fun c2=>?_)
  ·have hf:aP (a.2+n):=wb c2
   refine ah<|ae Z8 Z ji Z Z<|ax jp Z<|aa Z<|za (Gv.add Z Z (by unfold nN;unfold aP at hf;omega))<|za (zz (cps:=[(0,[_]),(1,[_])]) (rs:=[_,_]) rU Z Z Z)<|zq Z0 Z Z Z Z Z Z .head Z<|z6<|zg<|yw Z ⟨_,.head⟩ Yc Z0 Z ?_
   rw[if_pos (show dk 0 a.2 n from hf)];rfl
  ·have hf:¬aP (a.2+n):=of_decide_eq_false c2
   rw[if_neg (show ¬dk 0 a.2 n from hf)]
   have hn0:n≠0:=fun e=>hf (by rw[e,Int.add_zero];exact ha)
   refine zd<|zc<|zh<|zc<|zc<|yf (γ:=Bool) [0,2,6] (fun u=>[(20,.bool u)]) (fun u=>[(i6,.cells 81 (bg (0,0)))]) (fun u=>u=decide (up=true∧0<n)) ?_ (fun _ _ h=>h) ?_
   ·refine aM<|aa Z<|aO Z Z<|ai Z<|zm (s:=23) Z (fun c13=>?_) (fun c13=>?_)
    ·refine z8 Z Z c13<|aa Z<|z8 Z Z c13<|aO Z Z<|ap Z c13 Z<|ac Z<|z6 ?_
     exact ⟨_,dC,aG,aC,by simp_all⟩
    ·refine z7 Z Z c13<|z7 Z Z c13<|aq Z c13 Z<|ac Z<|z6 ?_
     exact ⟨_,dC,aG,aC,by simp_all⟩
   ·rintro u hu
    subst hu
    refine yf (γ:=Bool) [2,6] (fun u=>[(20,.bool u)]) (fun u=>[(i6,.cells 81 (bg (0,0)))]) (fun u=>u=decide (decide (0<n)=up)) ?_ (fun _ _ h=>h) ?_
    ·refine zp Z (fun c3=>?_) (fun c3=>?_)
     ·refine zd ?_
      exact ⟨_,di,aG,aC,by rw[w7 c3,w7 c3.2,c3.1];rfl⟩
     ·refine aM<|aa Z<|aw Z Z<|ai Z<|zm (s:=29) Z (fun c14=>?_) (fun c14=>?_)
      ·refine z8 Z Z c14<|aa Z<|z8 Z Z c14<|aw Z Z<|ap Z c14 Z<|ac Z<|z6 ?_
       exact ⟨_,di,aG,aC,by clear h0 hf c2 hk c;cases up<;>simp_all<;>omega⟩
      ·refine z7 Z Z c14<|z7 Z Z c14<|aq Z c14 Z<|ac Z<|z6 ?_
       exact ⟨_,di,aG,aC,by clear h0 hf c2 hk c;cases up<;>simp_all<;>omega⟩
    ·rintro u hu
     subst hu
     refine zp Z (fun c4=>?_) (fun c4=>?_)
     ·refine ah<|za (zz (cps:=[(0,[_])]) (rs:=[_,.int .i64 0]) rU Z Z Z)<|zq Z0 Z Z Z Z Z Z .head Z<|z6<|zg<|yw Z ⟨_,.head⟩ Yc Z0 Z ?_
      rw[if_pos c4];rfl
     ·rw[if_neg c4]
      refine ah<|aa Z<|aO Z Z<|ac Z<|z6<|zp Z (fun c5=>?_) (fun c5=>?_)
      ·refine ah<|za (zz (cps:=[(0,[_]),(1,[_])]) (rs:=[_,_]) rU Z Z Z)<|zq Z0 Z Z Z Z Z Z .head Z<|z6<|zg<|yw Z ⟨_,.head⟩ Yc Z0 Z ?_
       rw[if_pos c5];rfl
      ·refine zd<|ah<|za (zz (cps:=[(0,[_]),(1,[_])]) (rs:=[_,_]) rU Z Z Z)<|zq Z0 Z Z Z Z Z Z .head Z<|z6<|zg<|yw Z ⟨_,.head⟩ Yc Z0 Z ?_
       rw[if_neg c5];rfl
def GM (f:ad) (v:Int):List AV:=match fL f v with
 |some p=>dg p
 |none=>[.int .i64 0,.raw (.slice none 0 0),.raw (.slice none 0 0)]
def Mk (f:ad) (v:Int):Int:=if (fL f v).isSome=true then (aB f v).1 else -1
theorem oo {f:ad} {v:Int} {p:cS} (h:fL f v=some p):GM f v=dg p:=by unfold GM;rw[h]
theorem rV {f:ad} {v:Int} {p:cS} (h:fL f v=some p):Mk f v=(aB f v).1:=by unfold Mk;rw[h];rfl
theorem oq {f:ad} {v:Int} (h:fL f v=none):GM f v=[.int .i64 0,.raw (.slice none 0 0),.raw (.slice none 0 0)]:=by unfold GM;rw[h]
theorem rW {f:ad} {v:Int} (h:fL f v=none):Mk f v=-1:=by unfold Mk;rw[h];rfl
theorem Ee {b:bc} {v:Int} {j:Nat} (h:j<b.phis.length) (h1:∀p∈b.phis.take j,p.dst≠v) (h2:¬b.phis[j].dst=v):∀p∈b.phis.take (j+1),p.dst≠v:=fun q hq=>by
 rw[qr h] at hq
 rcases List.mem_append.1 hq with hq|hq
 ·exact h1 q hq
 ·rw[List.mem_singleton.1 hq];exact h2
theorem Ef {f:ad} {v:Int} {i:Nat} {b:bc} (hb:f.blocks[i]?=some b) (h1:∀k b,k<i→f.blocks[k]?=some b→∀p∈b.phis,p.dst≠v) (h2:∀p∈b.phis,p.dst≠v):∀k b,k<i+1→f.blocks[k]?=some b→∀p∈b.phis,p.dst≠v:=fun k c hk hc q hq=>by
 rcases (by omega:k<i∨k=i) with h|h
 ·exact h1 k c h hc q hq
 ·subst h
  rw[hb] at hc
  cases hc
  exact h2 q hq
set_option maxHeartbeats 4000000 in
theorem mb (f:ad) (hF:f6 f) (v:Nat) (hv:v<f.vars.length):aJ prog E 28 [.agg (bL f),.int .i64 v] (.tup [.agg (GM f v),.int .i64 (Mk f v)]):=by
 have hf:=hF.small
 have hvn:=hf.1
 have hn:=hf.2.2.1
 have hone:=(hF.once v hv).1
 refine zo func28 Z (by decide) Z<|ah<|yb (cs:=_) Z Z Z<|zy (cs:=[.int .i64 0,.raw (.slice none 0 0),.raw (.slice none 0 0)]) Zb Z Z<|fun i4=>ay Z<|z6<|zc<|ah<|ae je Z Ze Z Z<|aI Zl Z<|ak jk Z<|aa Z<|z6<|zh<|ya (γ:=Nat) [1,4,11,12] (fun i=>[(13,.int .i64 i)]) (fun i=>[(i4,.cells 62 [.int .i64 0,.raw (.slice none 0 0),.raw (.slice none 0 0)])]) (fun i=>i≤f.blocks.length∧∀k b,k<i→f.blocks[k]?=some b→∀p∈b.phis,p.dst≠(v:Int)) (fun i=>f.blocks.length - i) 0 aG aC (⟨qt _,fun k b h=>by omega⟩) ?_
 rintro i ⟨hi,hno⟩
 refine ah<|aw Z Z<|z6<|zc<|zp Z (fun ci=>?_) (fun ci=>?_)
 ·have hi2:i<f.blocks.length:=by simp at ci;omega
  obtain ⟨b,hbi⟩:∃b,f.blocks[i]=b:=⟨_,rfl⟩
  have hget:f.blocks[i]?=some b:=by rw[qq hi2,hbi]
  have hmem:b∈f.blocks:=hbi▸qu hi2
  obtain ⟨hb0,hb1,hb2,hb3,hb4⟩:=hf.2.2.2.2 b hmem
  refine zd<|zc<|zh<|ah<|aa Z<|za (bD i jk jv Z Z Z hget)<|ab Yk jv Z Z<|zy (cs:=[.str ⟨#[]⟩,.raw (.slice none 0 0),.raw (.slice none 0 0),.int .i64 0,.int .i64 0,.int .i64 0,.int .i64 0]) Zn Z Z<|fun i7=>ay Z<|zq jv Z Z Z Z Z Z .head Z<|zf (yd (t:=7) Z .head)<|z6<|ah<|ae jl Z Yh Z Z<|aI Yt Z<|ak Z2 Z<|aa Z<|z6<|zh<|ya (γ:=Nat) [1,4,6,11,12,13,19,20] (fun j=>[(21,.int .i64 j)]) (fun j=>[(i4,.cells 62 [.int .i64 0,.raw (.slice none 0 0),.raw (.slice none 0 0)])]) (fun j=>j≤b.phis.length∧∀p∈b.phis.take j,p.dst≠(v:Int)) (fun j=>b.phis.length - j) 0 aG aC (⟨qt _,fun p h=>by simp at h⟩) ?_
  rintro j ⟨hj,hjno⟩
  refine ah<|aw Z Z<|z6<|zc<|zp Z (fun cj=>?_) (fun cj=>?_)
  ·have hj2:j<b.phis.length:=by simp at cj;omega
   obtain ⟨p,hp⟩:∃p,b.phis[j]=p:=⟨_,rfl⟩
   have hpm:p∈b.phis:=hp▸qu hj2
   refine zd<|zc<|zh<|ah<|za (bD j Z2 jz Z Z Z (by rw[qq hj2,hp])) ?_
   refine ab Yl jz Z Z<|zy (cs:=[.int .i64 0,.raw (.slice none 0 0),.raw (.slice none 0 0)]) Zb Z Z<|fun i9=>zq jz Z Z Z Z Z Z .head Z<|zf (yd (t:=9) Z .head)<|z6<|ah<|ae jt Z ja Z Z<|ax jc Z<|aa Z<|aj Z Z<|z6<|zp Z (fun cd=>?_) (fun cd=>?_)
   ·obtain ⟨h1,h2⟩:=qU hone hget hpm cd
    refine ah<|ab Yl jz Z Z<|aa Z<|zq jz Z Z Z Z Z Z .head Z<|ay Z<|z6<|zg<|fU.c1t (y:=.int _ _) Z Z ⟨_,.head⟩ Yl jz Z ?_
    rw[oo h2,rV h2,h1];rfl
   ·have hjn2:=Ee hj2 hjno (by rw[hp];exact cd)
    refine zd<|aM<|aA Z Z<|aa Z<|z6 ?_
    exact ⟨j+1,vP,aG,aC,⟨hj2,hjn2⟩,by omega⟩
  ·have hjn:j=b.phis.length:=by simp at cj;omega
   rw[hjn,qv] at hjno
   have hin2:=Ef hget hno hjno
   refine y9<|aM<|aA Z Z<|aa Z<|z6 ?_
   exact ⟨i+1,e7,aG,aC,⟨hi2,hin2⟩,by omega⟩
 ·have hin:i=f.blocks.length:=by simp at ci;omega
  have hnone:fL f v=none:=by
   cases h:fL f v with
   |none=>rfl
   |some p=>
    obtain ⟨k,b,hb,hpm,hd,_,_⟩:=jB h
    exact absurd hd (hno k b (by rw[hin];exact (List.getElem?_eq_some_iff.1 hb).1) hb p hpm)
  refine y9<|ah<|za (zz (cps:=[]) (rs:=[.int .i64 0,.raw (.slice none 0 0),.raw (.slice none 0 0)]) Nk Z Z Z)<|zq jz Z Z Z Z Z Z .head Z<|ay Z<|z6<|zg<|fU.c1t (y:=.int _ _) Z Z ⟨_,.head⟩ Yl jz Z ?_
  rw[oq hnone,rW hnone];rfl
theorem Eg {f:ad} {l:List be} {up:Bool} {s v:Int} {A:List b7} (hA:iU (eJ f l up s) A) {p:cS} (hp:fL f v=some p):bW (eJ f l up s) A v=if lw f s v=true then (2,0) else nh up A (0,0) p.args:=by
 unfold bW
 rw[show (eJ f l up s).ph v=some p from hp]
 show nh up A (if lw f s v=true then (2,0) else (0,0)) p.args=_
 by_cases c:lw f s v=true
 ·rw[if_pos c,if_pos c];exact v6 hA up p.args
 ·rw[if_neg c,if_neg c]
theorem Eh {f:ad} {l:List be} {up:Bool} {s v:Int} {A:List b7} (hv:v<f.vars.length) (hp:fL f v=none):bW (eJ f l up s) A v=jJ up A (2,0) (fD (bX f l up) v):=by
 unfold bW
 rw[show (eJ f l up s).ph v=none from hp]
 show jJ up A (2,0) (AM f l up s v)=_
 unfold AM
 rw[if_neg (fun c=>by omega)]
theorem Ei {es:List dI} {k:Nat} (h:k<es.length) (v:Int):fD (es.take (k+1)) v=if es[k].2.1=v then fD (es.take k) v++[es[k]] else fD (es.take k) v:=by
 unfold fD
 rw[qr h,List.filter_append]
 by_cases c:es[k].2.1=v
 ·rw[if_pos c,List.filter_cons_of_pos (by simpa using c),List.filter_nil]
 ·rw[if_neg c,List.filter_cons_of_neg (by simpa using c),List.filter_nil,w5]
theorem Ej (up:Bool) (A:List b7) (b:b7) (es:List dI) (e:dI):jJ up A b (es++[e])=if bU up (jJ up A b es) (gF up (dF A e.1) e.2.2)=true then gF up (dF A e.1) e.2.2 else jJ up A b es:=by
 unfold jJ;rw[List.foldl_append];rfl
set_option maxHeartbeats 16000000 in
theorem rX (f:ad) (hF:f6 f) (h:(aR f&&bG f)=true) (hN:∀b∈f.blocks,∀x∈b.insts,aP x.num) (l:List be) (hol:∀r∈l,cY r) (hll:l.length=f.vars.length) (up:Bool) (s:Int) (hs:0≤s∧s≤f.vars.length) (A:List b7) (hA:iU (eJ f l up s) A) (i:Nat) (T:TypeId) (v:Nat) (hv:v≤f.vars.length) (hvs:(v:Int)≠s) :
  ba prog E 26 [.agg (bL f),IQ (mv f),.fro 2 (l.map bg),.fro 3 ((bX f l up).map gg),.int .i64 (JT up),.int .i64 s,.own i (f.vars.length+1),.int .i64 v] [(i,.grow 2 T (lC A))] (L8 i (.grow 2 T (lC A)) (.agg (bg (bW (eJ f l up s) A v)))):=by
 have hf:=hF.small
 have hvn:=hf.1
 have hn:=hf.2.2.1
 have hE:=bT (jW h).1
 have hlen:A.length=f.vars.length+1:=hA.len
 have hsn:((s.toNat:Nat):Int)=s:=wa hs.1
 refine ba.now2<|zo func26 Z (by decide) Z<|ah<|yb (cs:=_) Z Z Z<|zy (cs:=[.int .i64 0,.int .i64 0]) X1 Z Z<|fun i16=>z6<|yg (zi (zj .t1))<|zc<|ah<|aa Z<|ae je Z Zg Z Z<|aI Zp Z<|ak js Z<|aj Z Z<|z6<|zp Z (fun cn=>?_) (fun cn=>?_)
 ·have hv':(v:Int)=f.vars.length:=by simpa using cn
  have hlt:s<f.vars.length:=by omega
  have hnn:=GJ hF (up:=up) hlt hA
  rw[hv',hnn]
  obtain ⟨r,hr⟩:∃r,fA (lv l s) (de 2)=r:=⟨_,rfl⟩
  have hms:=lO (E:=E) (lv l s) (de 2)
  have hlf:jU l s=if r.2<r.1 then (false,0) else (true,-r.1):=by unfold jU;rw[hr]
  have hlr:=uZ l s
  rw[hr] at hms hlr
  refine zc<|yf (γ:=Nat) [16] (fun z=>[(17,.po z 0)]) (fun z=>[(z,.cells 91 (bg r)),(i,.grow 2 T (lC A)),(i16,.cells 81 (bg (0,0)))]) (fun z=>True) ?_ (fun _ _ h=>h) ?_
  ·refine y7 (fun j=>false) (by kernel_rfl) Z (zn (.rest _))<|au 0 Z (kl Z)<|au 1 Z (cG Z)<|au 2 Z (bD s.toNat X3 jq Z Z (by omega) (GD hll hs.1 hlt))<|au 3 Z (yk Y9 jq Z Z)<|yv (i:=4) (j:=6) Z Z (by kernel_rfl) ?_ ?_
   ·refine ze (gU (t:=2) ⟨by decide,by decide⟩) Z<|z6<|yv (i:=5) (j:=6) Z Z (by kernel_rfl) ?_ ?_
    ·refine ze (hms) Z<|z6<|aV 6 Z<|zy (cs:=[.int .i64 0,.int .i64 0]) Y5 Z Z<|fun i17=>z6<|aV 7 Z<|zq jq Z Z Z Z Z Z .head Z<|z6<|bY ?_
     exact ⟨i17,aG,aG,aC,trivial⟩
    ·refine zy (cs:=[.int .i64 0,.int .i64 0]) Y5 Z Z<|fun i17=>z6<|aV 5 Z<|ze (hms) Z<|z6<|aV 7 Z<|zq jq Z Z Z Z Z Z .head Z<|z6<|bY ?_
     exact ⟨i17,aG,aG,aC,trivial⟩
   ·refine zy (cs:=[.int .i64 0,.int .i64 0]) Y5 Z Z<|fun i17=>z6<|aV 4 Z<|ze (gU (t:=2) ⟨by decide,by decide⟩) Z<|z6<|aV 5 Z<|ze (hms) Z<|z6<|aV 7 Z<|zq jq Z Z Z Z Z Z .head Z<|z6<|bY ?_
    exact ⟨i17,aG,aG,aC,trivial⟩
  ·rintro z _
   refine yg (yd (t:=17) Z .head)<|zc<|ah<|ae jr Z ji Z Z<|ax jp Z<|ae jr Z ji Z Z<|ax jp Z<|aO Z Z<|z6<|zp Z (fun c3=>?_) (fun c3=>?_)
   ·refine yg (zi (zj .t1))<|ah<|za (zz (cps:=[(0,[_])]) (rs:=[_,.int .i64 0]) rU Z Z Z)<|zq Z0 Z Z Z Z Z Z .head Z<|z6<|zg<|yw Z ⟨_,.head⟩ Yc Z0 Z ?_
    exact ⟨by rw[hlf,if_pos c3];rfl,.d1⟩
   ·have h64:=hlr c3
    refine zd<|ah<|ae jr Z ji Z Z<|ax jp Z<|za (Gv.neg Z)<|za (zz (cps:=[(0,[_]),(1,[_])]) (rs:=[_,_]) rU Z Z Z)<|zq Z0 Z Z Z Z Z Z .t1 Z<|z6<|yg (zi (zj .t1))<|zg<|yw Z ⟨_,.head⟩ Yc Z0 Z ?_
    exact ⟨by rw[hlf,if_neg c3,wW h64.1 h64.2];rfl,.d1⟩
 ·have hv2:v<f.vars.length:=by have:¬(v:Int)=f.vars.length:=(by simpa using cn);omega
  have hph:=mb (E:=E) f hF v hv2
  rcases hpv:fL f v with _|p
  ·rw[oq hpv,rW hpv] at hph
   rw[Eh (f:=f) (l:=l) (up:=up) (s:=s) (by omega) hpv]
   refine zd<|zc<|ah<|ab jm jh Z Z<|aa Z<|ze (hph) Z<|za (m6 Z)<|za (yy (v:=.agg _) Z Z)<|za (mq Z Z)<|zy (cs:=[.int .i64 0,.raw (.slice none 0 0),.raw (.slice none 0 0)]) Zb Z Z<|fun i18=>zq jz Z Z Z Z Z Z .head Z<|zf (yd (t:=18) Z .head)<|ay Z<|z6<|ah<|aa Z<|za (qa Z Z)<|z6<|yj Z (by rfl) ?_
   have hel:=lU hf l up
   obtain ⟨es,hes⟩:∃es,bX f l up=es:=⟨_,rfl⟩
   have hem:∀e∈es,AG f e∧aP e.2.2:=fun e he=>by rw[←hes] at he;exact ⟨nz hF h l up e he,tZ hF.shaped hN hol he⟩
   rw[hes] at hel ⊢
   refine zd<|ah<|za (zz (cps:=[(0,[_])]) (rs:=[_,.int .i64 0]) rU Z Z Z)<|zy (cs:=[.int .i64 0,.int .i64 0]) X1 Z Z<|fun i25=>zq Z0 Z Z Z Z Z Z .head Z<|z6<|zc<|ah<|aU Z<|ak Zu Z<|aa Z<|z6<|yg (zi (zj .t1))<|zh<|ya (γ:=Nat × b7) [4,6,7,16,25,109,110] (fun g=>[(111,.int .i64 g.1)]) (fun g=>[(i,.grow 2 T (lC A)),(i25,.cells 81 (bg g.2)),(i16,.cells 81 (bg (0,0)))]) (fun g=>g.1≤es.length∧g.2=jJ up A (2,0) (fD (es.take g.1) v)) (fun g=>es.length - g.1) (0,(2,0)) aG aC (⟨qt _,Z⟩) ?_
   rintro ⟨k,b⟩ ⟨hk,hb⟩
   try dsimp only at *
   refine ah<|aw Z Z<|z6<|zc<|zp Z (fun ck=>?_) (fun ck=>?_)
   ·have hk2:k<es.length:=by simp at ck;omega
    obtain ⟨e,he⟩:∃e,es[k]=e:=⟨_,rfl⟩
    obtain ⟨hee,hnum⟩:=hem e (he▸qu hk2)
    have hf0:=hee.from0
    have hf1:=hee.from1
    have hga:=jC (A:=A) (v:=e.1) hee.from0 (by omega)
    have hsn:=Ei hk2 (v:Int)
    rw[he] at hsn
    refine zd<|zc<|zh<|ah<|za (bD k Zu sizeOf126 Z Z Z (by rw[qq hk2,he])) ?_
    refine ab isAgg126 sizeOf126 Z Z<|zy (cs:=[.int .i64 0,.int .i64 0,.int .i64 0]) zeroValue126 Z Z<|fun i27=>zq sizeOf126 Z Z Z Z Z Z .head Z<|zf (yd (t:=27) Z .head)<|z6<|zc<|ah<|ae underlying126 Z ja Z Z<|ax jc Z<|aa Z<|aH Z Z<|z6<|zt Z (fun cd=>?_) (fun cd=>?_)
    ·have hne:=eB cd
     rw[if_neg hne] at hsn
     refine y9<|aM<|aA Z Z<|aa Z<|z6 ?_
     exact ⟨(k+1,b),km,aG,aC,⟨hk2,by rw[hsn];exact hb⟩,by dsimp only;omega⟩
    ·have hde:=eF cd
     rw[if_pos hde] at hsn
     have hpu:=Ej up A (2,0) (fD (es.take k) v) e
     rw[←hsn,←hb] at hpu
     obtain ⟨m,hm⟩:∃m,gF up (dF A e.1) e.2.2=m:=⟨_,rfl⟩
     have hsm:=sW (E:=E) up (dF A e.1) e.2.2 (Dt hA e.1).2.2 hnum
     rw[hm] at hpu hsm
     refine zd<|zc<|yf (γ:=Nat) [4,6,7,16,25,109,110,111] (fun z=>[(28,.po z 0)]) (fun z=>[(i,.grow 2 T (lC A)),(z,.cells 81 (bg m)),(i25,.cells 81 (bg b)),(i16,.cells 81 (bg (0,0)))]) (fun z=>True) ?_ (fun _ _ h=>h) ?_
     ·refine y7 (fun j=>false) (by kernel_rfl) Z (zn (.r (.rest _)))<|au 0 Z (cG Z)<|au 1 Z (Fb Z)<|au 2 Z (cA underlying126 Z ja Z Z)<|au 3 Z (du jc Z)<|au 4 Z (qk (j:=e.1.toNat) Zr Z0 Z Z (by omega) ⟨_,.head⟩ hlen (by omega))<|au 5 Z (Gv.loadR (j:=e.1.toNat) Yc Z0 Z ⟨_,.head⟩ hga)<|au 6 Z (cA underlying126 Z ji Z Z)<|au 7 Z (du jp Z)<|yv (i:=8) (j:=9) Z Z (by kernel_rfl) ?_ ?_
      ·refine ze (hsm) Z<|z6<|aV 9 Z<|zy (cs:=[.int .i64 0,.int .i64 0]) X1 Z Z<|fun i28=>z6<|aV 10 Z<|zq Z0 Z Z Z Z Z Z .head Z<|z6<|bY ?_
       exact ⟨i28,vP,aG,aC,trivial⟩
      ·refine zy (cs:=[.int .i64 0,.int .i64 0]) X1 Z Z<|fun i28=>z6<|aV 8 Z<|ze (hsm) Z<|z6<|aV 10 Z<|zq Z0 Z Z Z Z Z Z .head Z<|z6<|bY ?_
       exact ⟨i28,vP,aG,aC,trivial⟩
     ·rintro z _
      refine yg (yd (t:=28) Z .t1)<|ah<|aa Z<|za (q8 Yc Z0 Z ⟨_,.t1⟩ Z)<|ab Yc Z0 Z Z<|ze (jE up b m) Z<|z6<|zt Z (fun cc=>?_) (fun cc=>?_)
      ·rw[if_pos cc] at hpu
       refine aM<|ab Yc Z0 Z Z<|zq Z0 Z Z Z Z Z Z .t1 Z<|z6<|aM<|aA Z Z<|aa Z<|z6 ?_
       exact ⟨(k+1,m),km,aG,aC,⟨hk2,hpu.symm⟩,by dsimp only;omega⟩
      ·rw[if_neg (by rw[cc];decide)] at hpu
       refine zd<|aM<|aA Z Z<|aa Z<|z6 ?_
       exact ⟨(k+1,b),km,aG,aC,⟨hk2,hpu.symm⟩,by dsimp only;omega⟩
   ·have hkn:k=es.length:=by simp at ck;omega
    rw[hkn,qv] at hb
    refine y9<|ah<|za (q8 Yc Z0 Z ⟨_,.t1⟩ Z)<|zq Z0 Z Z Z Z Z Z .t2 Z<|z6<|yg (qi .t1)<|yg (zi (zj .t1))<|zg<|yw Z ⟨_,.head⟩ Yc Z0 Z ?_
    exact ⟨congrArg (fun x:b7=>AV.agg (bg x)) hb,.d1⟩
  ·obtain ⟨j,bk,hbk,hpm,hpd,hmj,hm2⟩:=jB hpv
   rw[oo hpv,rV hpv,hmj] at hph
   have hru:=Eg (s:=s) hA hpv
   rw[hru]
   have hmem:=w3 hbk
   obtain ⟨hb0,hb1,hb2,hb3,hb4⟩:=hf.2.2.2.2 bk hmem
   have hpl:=(hb3 p hpm).1
   have hpa:=List.all_eq_true.1 ((hF.shaped.2.2.2.2.2 bk hmem).1 p hpm).2.2.2.1
   have hjl:=(List.getElem?_eq_some_iff.1 hbk).1
   have hmk:=mK (E:=E) f hf s.toNat
   rw[hsn] at hmk
   refine zd<|zc<|ah<|ab jm jh Z Z<|aa Z<|ze (hph) Z<|za (m6 Z)<|za (yy (v:=.agg _) Z Z)<|za (mq Z Z)<|zy (cs:=[.int .i64 0,.raw (.slice none 0 0),.raw (.slice none 0 0)]) Zb Z Z<|fun i18=>zq jz Z Z Z Z Z Z .head Z<|zf (yd (t:=18) Z .head)<|ay Z<|z6<|ah<|aa Z<|za (qa Z Z)<|z6<|yt Z (by simp)<|ah<|za (zz (cps:=[]) (rs:=[.int .i64 0,.int .i64 0]) rU Z Z Z)<|zy (cs:=[.int .i64 0,.int .i64 0]) X1 Z Z<|fun i20=>zq Z0 Z Z Z Z Z Z .head Z<|z6<|zc<|ah<|ae jt Z jg Z Z<|aI jn Z<|ak j9 Z<|aa Z<|z6<|zh<|ya (γ:=Nat × b7) [1,4,5,6,8,16,19,20,60,61] (fun g=>[(62,.int .i64 g.1)]) (fun g=>[(i20,.cells 81 (bg g.2)),(i,.grow 2 T (lC A)),(i16,.cells 81 (bg (0,0)))]) (fun g=>g.1≤p.args.length∧g.2=nh up A (0,0) (p.args.take g.1)) (fun g=>p.args.length - g.1) (0,(0,0)) aG aC (⟨qt _,Z⟩) ?_
   rintro ⟨k,b⟩ ⟨hk,hb⟩
   try dsimp only at *
   refine ah<|aw Z Z<|z6<|zc<|zp Z (fun ck=>?_) (fun ck=>?_)
   ·have hk2:k<p.args.length:=by simp at ck;omega
    obtain ⟨a,ha⟩:∃a,p.args[k]=a:=⟨_,rfl⟩
    have har:=bH (hpa a (ha▸qu hk2))
    have hga:=jC (A:=A) (v:=a) har.1 (by omega)
    have hsn2:=uc (up:=up) (A:=A) (b:=(0,0)) hk2
    rw[←hb,ha] at hsn2
    refine zd<|zc<|zh<|ah<|za (bD k j9 ja Z Z Z (by rw[qq hk2,ha])) ?_
    refine ax jc Z<|ay Z<|z6<|zc<|yf (γ:=Bool) [1,4,5,6,8,16,19,20,22,60,61,62] (fun u=>[(72,.bool u)]) (fun u=>[(i20,.cells 81 (bg b)),(i,.grow 2 T (lC A)),(i16,.cells 81 (bg (0,0)))]) (fun u=>u=bU up (dF A a) b) ?_ (fun _ _ h=>h) ?_
    ·refine y7 (fun j=>false) (by kernel_rfl) Z (zn (.r (.r (.rest _))))<|au 0 Z (cG Z)<|au 1 Z (Fb Z)<|au 2 Z (cG Z)<|au 3 Z (qk (j:=a.toNat) Zr Z0 Z Z (by omega) ⟨_,.t1⟩ hlen (by omega))<|au 4 Z (Gv.loadR (j:=a.toNat) Yc Z0 Z ⟨_,.t1⟩ hga)<|au 5 Z (q8 Yc Z0 Z ⟨_,.head⟩ Z)<|aV 6 Z<|ze (jE up (dF A a) b) Z<|z6<|bY ?_
     exact ⟨_,ec,aG,aC,rfl⟩
    ·rintro u hu
     subst hu
     refine zt Z (fun cc=>?_) (fun cc=>?_)
     ·rw[if_pos cc] at hsn2
      refine aM<|bw Z<|aa Z<|za (qk (j:=a.toNat) Zr Z0 Z Z (by omega) ⟨_,.t1⟩ hlen (by omega))<|za (Gv.loadR (j:=a.toNat) Yc Z0 Z ⟨_,.t1⟩ hga)<|zq Z0 Z Z Z Z Z Z .head Z<|z6<|aM<|aA Z Z<|aa Z<|z6 ?_
      exact ⟨(k+1,dF A a),iy,aG,aC,⟨hk2,hsn2.symm⟩,by dsimp only;omega⟩
     ·rw[if_neg (by rw[cc];decide)] at hsn2
      refine zd<|aM<|aA Z Z<|aa Z<|z6 ?_
      exact ⟨(k+1,b),iy,aG,aC,⟨hk2,hsn2.symm⟩,by dsimp only;omega⟩
   ·have hkn:k=p.args.length:=by simp at ck;omega
    rw[hkn,qv] at hb
    rw[←hb]
    refine y9<|zc<|ah<|aa Z<|ae je Z Zg Z Z<|aI Zp Z<|ak js Z<|aw Z Z<|z6<|yf (γ:=Unit) [16,20] (fun w=>[]) (fun w=>[(i20,.cells 81 (bg (if lw f s v=true then (2,0) else b))),(i,.grow 2 T (lC A)),(i16,.cells 81 (bg (0,0)))]) (fun w=>True) ?_ (fun _ _ h=>h) ?_
    ·refine zp Z (fun cs=>?_) (fun cs=>?_)
     ·have hsu:lw f s v=qS f s v:=by unfold lw;rw[w7 cs,Bool.true_and]
      rw[hsu]
      refine ah<|ab jm jh Z Z<|aa Z<|ze (hmk) Z<|za (m6 Z)<|za (mq Z Z)<|za (mq Z Z)<|ay Z<|ay Z<|z6<|zc<|yf (γ:=Bool) [16,20] (fun u=>[(105,.bool u)]) (fun u=>[(i20,.cells 81 (bg b)),(i,.grow 2 T (lC A)),(i16,.cells 81 (bg (0,0)))]) (fun u=>u=qS f s v) ?_ (fun _ _ h=>h) ?_
      ·refine aM<|aa Z<|za (qa Z Z)<|ai Z<|zm (s:=91) Z (fun c1=>?_) (fun c1=>?_)
       ·have h1:0≤(aB f s).1:=wb c1
        refine z8 Z Z c1<|aa Z<|z8 Z Z c1<|aa Z<|z8 Z Z c1<|aj Z Z<|z8 Z Z c1<|ai Z<|zm (s:=95) Z (fun c2=>?_) (fun c2=>?_)
        ·have h2:(aB f s).1=(j:Int):=wb c2
         refine z7 Z Z c2<|z7 Z Z c2<|z7 Z Z c2<|z7 Z Z c2<|z7 Z Z c2<|z7 Z Z c2<|z7 Z Z c2<|z7 Z Z c2<|z8 Z Z c1<|ap Z c2 Z<|ap Z c1 Z<|z6 ?_
         exact ⟨_,di,aG,aC,by unfold qS;rw[w7 h1,hmj,w7 h2];rfl⟩
        ·have h2:¬(aB f s).1=(j:Int):=of_decide_eq_false c2
         have hml:(aB f s).1<f.blocks.length:=D9 h1
         refine z8 Z Z c2<|aU Z<|z8 Z Z c2<|aa Z<|z8 Z Z c2<|za (q9 (j:=(aB f s).1.toNat) underlying82 sizeOf55 Z Z (by omega) (m9 (by omega)))<|z8 Z Z c2<|aI isAgg55 Z<|z8 Z Z c2<|aa Z<|z8 Z Z c2<|za (bD j Za Z5 Z Z Z (qJ hjl))<|z8 Z Z c2<|za (yo (c:=.bool _) Zm Z)<|z8 Z Z c2<|aF Z<|z8 Z Z c1<|aq Z c2 Z<|ap Z c1 Z<|z6 ?_
         exact ⟨_,di,aG,aC,by unfold qS;rw[w7 h1,hmj,w8 h2,wa h1];rfl⟩
       ·have h1:¬0≤(aB f s).1:=of_decide_eq_false c1
        refine z7 Z Z c1<|z7 Z Z c1<|z7 Z Z c1<|z7 Z Z c1<|zb Z Z<|zb Z Z<|zb Z Z<|zb Z Z<|zb Z Z<|zb Z Z<|zb Z Z<|zb Z Z<|z7 Z Z c1<|aq Z c1 Z<|z6 ?_
        exact ⟨_,di,aG,aC,by unfold qS;rw[w8 h1];rfl⟩
      ·rintro u hu
       rw[←hu]
       refine zt Z (fun cu=>?_) (fun cu=>?_)
       ·have cu:u=true:=cu
        refine aM<|za (zz (cps:=[(0,[_])]) (rs:=[_,.int .i64 0]) rU Z Z Z)<|zq Z0 Z Z Z Z Z Z .head Z<|z6 ?_
        exact ⟨(),di,trivial,⟨_,(.refl _),(by rw[cu,if_pos rfl];rfl)⟩,trivial⟩
       ·have cu:u=false:=cu
        refine zd ?_
        exact ⟨(),di,trivial,⟨_,(.refl _),(by rw[cu,if_neg (by decide)])⟩,trivial⟩
     ·refine zd ?_
      exact ⟨(),di,trivial,⟨_,(.refl _),(by rw[show lw f s v=false by unfold lw;rw[w8 cs,Bool.false_and],if_neg (by decide)])⟩,trivial⟩
    ·rintro _ _
     refine ah<|za (q8 Yc Z0 Z ⟨_,.head⟩ Z)<|zq Z0 Z Z Z Z Z Z .t2 Z<|z6<|yg (qi .head)<|yg (zi (zj .t1))<|zg<|yw Z ⟨_,.head⟩ Yc Z0 Z ?_
     exact ⟨rfl,.d1⟩
end
section
open Go.Proofs.Tryz
open Go.Proofs Go.Lib Go.Shelf Go.RowKit
variable {E:World}
set_option maxRecDepth 20000
def mL (m:b7):EH:=(decide (m.1=1),if m.1=1 then m.2 else 0)
theorem u6 {w:Bool} {S:Sd} {A:List b7} {c:Bool} {v:Int} (h:¬fZ S A v):d9 w S (A,c) v=(A,c):=if_neg h
theorem xc {w:Bool} {S:Sd} {A:List b7} {c:Bool} {v:Int} (h:fZ S A v):d9 w S (A,c) v=(A.set v.toNat (o5 w S A v),true):=if_pos h
theorem oK (w:Bool) (S:Sd) (k:Nat) (x:List b7 × Bool):ef w S (List.range (k+1)) x=d9 w S (ef w S (List.range k) x) k:=by rw[List.range_succ,zV]
theorem xd {w:Bool} {S:Sd} (hs0:0≤S.s) {A:List b7} {c:Bool} (h:iU S A) {k:Nat} (hk:k≤S.n+1):iU S (ef w S (List.range k) (A,c)).1:=uE hs0 _ _ _ (fun u hu=>by rw[List.mem_range] at hu;omega) h
theorem I6 {S:Sd} {A:List b7} {v:Int} (h:¬v=S.s):decide (fZ S A v)=bU S.up (bW S A v) (dF A v):=by
 cases hf:bU S.up (bW S A v) (dF A v) with
 |true=>exact w7 (show fZ S A v from ⟨h,hf⟩)
 |false=>exact w8 (fun h2:fZ S A v=>by have:=h2.2;rw[hf] at this;cases this)
theorem KS {S:Sd} {A:List b7} {v:Int} (h:¬v=S.s):decide (v≠S.s∧bU S.up (dF A v) (bW S A v)=true)=bU S.up (dF A v) (bW S A v):=by
 cases hf:bU S.up (dF A v) (bW S A v) with
 |true=>exact w7 ⟨h,rfl⟩
 |false=>exact w8 (fun h2=>by cases h2.2)
set_option maxHeartbeats 8000000 in
theorem AO (S:Sd) (rows:List (List dI)) (P Sh:List (Int × AV)) (hW:Lr S rows P Sh) (A0:List b7) (hA0:iU S A0) (bp bs i:Nat) (T:TypeId) (n:Int) :
  ba prog E 42 [JU S rows bp bs i,.int .i64 n] (EI i T A0 bp bs P Sh) fun y O=>y=.bool (n5 (decide (4≤n)) S (A0,false)).2∧O=EI i T (n5 (decide (4≤n)) S (A0,false)).1 bp bs P Sh:=by
 have hn:=hW.nl
 have hs0:=hW.s0
 have hrule:=fun A hA v hv=>rT (E:=E) S rows P Sh hW A hA bp bs i T v hv
 have hout:=fun a b=>om (E:=E) S.up S.s (ma rows) bp bs (.own i (S.n+1)) a b
 obtain ⟨w4,hw4⟩:∃w4,decide (4≤n)=w4:=⟨_,rfl⟩
 rw[hw4]
 obtain ⟨z,hz⟩:∃z,n5 w4 S (A0,false)=z:=⟨_,rfl⟩
 rw[hz]
 refine ba.now2 ?_
 unfold EI JU at hrule ⊢
 unfold ol at hrule hout ⊢
 refine zo func42 Z (by decide) Z<|ah<|ac Z<|z6<|ah<|ac Z<|z6<|zc<|ah<|za (gS Z)<|za (yr Z)<|ae Z6 Z X0 Z Z<|za (yo (c:=.own _ _) Xc Z)<|za (Gv.lenO Y2 Z)<|aa Z<|z6<|zh<|ya (γ:=Nat × List b7 × Bool) [0,1,14] (fun g=>[(15,.int .i64 g.1),(5,.bool g.2.2)]) (fun g=>[(i,.grow 2 T (lC g.2.1)),(0,bj bp P),(0,bj bs Sh)]) (fun g=>g.1≤S.n+1∧g.2=ef w4 S (List.range g.1) (A0,false)∧iU S g.2.1) (fun g=>S.n+1 - g.1) (0,A0,false) di aC (⟨qt _,Z,hA0⟩) ?_
 rintro ⟨k,A,fl⟩ ⟨hk,hs,hA⟩
 try dsimp only at *
 refine ah<|aw Z Z<|z6<|zc<|zp Z (fun ck=>?_) (fun ck=>?_)
 ·have hk2:k<S.n+1:=by simp at ck;omega
  have hlen:=hA.len
  have hgk:=jC (A:=A) (v:=(k:Int)) (by omega) (by omega)
  have hsn:=oK w4 S k (A0,false)
  rw[←hs] at hsn
  have hok:=xd (w:=w4) (c:=false) hs0 hA0 (k:=k+1) hk2
  rw[hsn] at hok
  have hP:=hW.phi k (by omega)
  obtain ⟨r,hr⟩:∃r,bW S A k=r:=⟨_,rfl⟩
  have hru:=hrule A hA k (by omega)
  rw[hr] at hru
  refine zd<|zc<|zh<|ah<|aa Z<|ay Z<|z6<|ah<|za (gS Z)<|aa Z<|zu Z (zn (.l (.l (.l (.rest _))))) (hru) ?_
  rintro r20 O20 ⟨rfl,rfl⟩
  refine zy (cs:=[.int .i64 0,.int .i64 0]) Yo Z Z<|fun i7=>zq jy Z Z Z Z Z Z .head Z<|z6<|zc<|zc<|yf (γ:=Bool) [0,1,5,6,7,14,15] (fun u=>[(39,.bool u)]) (fun u=>[(i7,.cells 115 (bg r)),(i,.grow 2 T (lC A)),(0,bj bp P),(0,bj bs Sh)]) (fun u=>u=!decide (fZ S A k)) ?_ (fun _ _ h=>h) ?_
  ·refine y7 (fun j=>false) (by kernel_rfl) Z (zn (.r (.rest _)))<|au 0 Z (cG Z)<|au 1 Z (gS Z)<|au 2 Z (yr Z)<|au 3 Z (cA Z6 Z ja Z Z)<|au 4 Z (du jc Z)<|au 5 Z (Gv.eqlI Z Z)<|au 6 Z (l5 Z)<|q4 (s:=27) Z (fun c1=>?_) (fun c1=>?_)
   ·have h1:(k:Int)=S.s:=wb c1
    refine bi 7 Z Z Z c1<|bi 8 Z Z Z c1<|bi 9 Z Z Z c1<|bi 10 Z Z Z c1<|bi 11 Z Z Z c1<|bi 12 Z Z Z c1<|bi 13 Z Z Z c1<|bi 14 Z Z Z c1<|bi 15 Z Z Z c1<|bi 16 Z Z Z c1<|bi 17 Z Z Z c1<|au 18 Z (oB Z c1 Z)<|bY ?_
    exact ⟨_,km,aG,aC,by rw[w8 (fun h:fZ S A k=>h.1 h1)];rfl⟩
   ·have h1:¬(k:Int)=S.s:=of_decide_eq_false c1
    refine bB 7 Z Z Z c1 (gS Z)<|bB 8 Z Z Z c1 (q8 Y3 jy Z ⟨_,.head⟩ Z)<|bB 9 Z Z Z c1 (gS Z)<|bB 10 Z Z Z c1 (yr Z)<|bB 11 Z Z Z c1 (cA Z6 Z X0 Z Z)<|bB 12 Z Z Z c1 (yo (c:=.own _ _) Xc Z)<|bB 13 Z Z Z c1 (cG Z)<|aV 14 Z<|z8 Z Z c1<|za (qk (j:=k) Y2 jy Z Z Z ⟨_,.head⟩ hlen (by omega))<|z6<|aV 15 Z<|z8 Z Z c1<|za (Gv.loadR (j:=k) Y3 jy Z ⟨_,.head⟩ hgk)<|z6<|aV 16 Z<|z8 Z Z c1<|ze (hout r (dF A k)) Z<|z6<|bB 17 Z Z Z c1 (Gv.not Z)<|au 18 Z (kY Z c1 Z)<|bY ?_
    exact ⟨_,km,aG,aC,by rw[I6 h1,hr]⟩
  ·rintro u hu
   subst hu
   refine zt Z (fun c=>?_) (fun c=>?_)
   ·have hnf:=eB c
    rw[u6 hnf] at hsn hok
    refine yg (qi .head)<|y9<|aM<|aA Z Z<|aa Z<|z6 ?_
    exact ⟨(k+1,A,fl),dC,di,aC,⟨hk2,hsn.symm,hA⟩,by dsimp only;omega⟩
   ·have hf:=eF c
    rw[xc hf] at hsn hok
    obtain ⟨q,hq⟩:∃q,o5 w4 S A k=q:=⟨_,rfl⟩
    have hqe:q=if w4=true∧(S.ph k).isSome=true∧(dF A k).1=1 then (2,0) else r:=by rw[←hq,←hr];rfl
    rw[hq] at hsn hok
    refine zd<|zc<|zc<|yf (γ:=List AV) [0,1,6,7,14,15] (fun w=>[(9,.bool (S.ph k).isSome)]) (fun w=>[(i7,.cells 115 (bg r)),(i,.grow 2 T (lC A)),(0,bj bp P),(0,bj bs Sh)]) (fun w=>True) ?_ (fun _ _ h=>h) ?_
    ·rcases hph:S.ph k with _|p
     ·rw[hph] at hP
      refine aM<|za (gS Z)<|za (yr Z)<|ae Z6 Z sizeOf74 Z Z<|za (yo (c:=.raw _) isAgg74 Z)<|aa Z<|za (Gv.lookupA (zx:=.agg [.int .i64 0,.raw (.slice none 0 0),.raw (.slice none 0 0)]) hP underlying74 Y0 Zb (fun I=>⟨_,Z,dx I [.int .i64 0,.slice none 0 0,.slice none 0 0]⟩) Z Z ⟨_,.t2⟩)<|za (m6 Z)<|za (yy (v:=.agg _) Z Z)<|za (sH Z Z)<|zy (cs:=[.int .i64 0,.raw (.slice none 0 0),.raw (.slice none 0 0)]) Zb Z Z<|fun i8=>zq jz Z Z Z Z Z Z .head Z<|zf (yd (t:=8) Z .head)<|ac Z<|z6 ?_
      exact ⟨[],pt,aG,aC,trivial⟩
     ·rw[hph] at hP
      refine aM<|za (gS Z)<|za (yr Z)<|ae Z6 Z sizeOf74 Z Z<|za (yo (c:=.raw _) isAgg74 Z)<|aa Z<|za (Gv.lookupA (zx:=.agg [.int .i64 0,.raw (.slice none 0 0),.raw (.slice none 0 0)]) hP underlying74 Y0 Zb (fun I=>⟨_,Z,dx I [.int .i64 0,.slice none 0 0,.slice none 0 0]⟩) Z Z ⟨_,.t2⟩)<|za (m6 Z)<|za (yy (v:=.agg _) Z Z)<|za (sH Z Z)<|zy (cs:=[.int .i64 0,.raw (.slice none 0 0),.raw (.slice none 0 0)]) Zb Z Z<|fun i8=>zq jz Z Z Z Z Z Z .head Z<|zf (yd (t:=8) Z .head)<|ac Z<|z6 ?_
      exact ⟨[],pt,aG,aC,trivial⟩
    ·rintro _ _
     refine zc<|yf (γ:=Bool) [0,1,6,7,14,15] (fun u=>[(64,.bool u)]) (fun u=>[(i7,.cells 115 (bg r)),(i,.grow 2 T (lC A)),(0,bj bp P),(0,bj bs Sh)]) (fun u=>u=decide (w4=true∧(S.ph k).isSome=true∧(dF A k).1=1)) ?_ (fun _ _ h=>h) ?_
     ·have h4:decide ((3:Int)<n)=w4:=by rw[←hw4];exact decide_eq_decide.2 (by omega)
      refine aM<|ai Z<|ai Z<|zm (s:=50) Z (fun c1=>?_) (fun c1=>?_)
      ·refine z8 Z Z c1<|aa Z<|z8 Z Z c1<|aO Z Z<|ap Z c1 Z<|ai Z<|zm (s:=54) Z (fun c2=>?_) (fun c2=>?_)
       ·refine z8 Z Z c2<|za (gS Z)<|z8 Z Z c2<|za (yr Z)<|z8 Z Z c2<|ae Z6 Z X0 Z Z<|z8 Z Z c2<|za (yo (c:=.own _ _) Xc Z)<|z8 Z Z c2<|aa Z<|z8 Z Z c2<|za (qk (j:=k) Y2 jy Z Z Z ⟨_,.t1⟩ hlen (by omega))<|z8 Z Z c2<|za (zr Zj Z X6 (by decide) Z Z)<|z8 Z Z c2<|za (Gv.loadR0 (j:=k) Xe Z ⟨_,.t1⟩ hgk)<|z8 Z Z c2<|aj Z Z<|ap Z c2 Z<|z6 ?_
        exact ⟨_,pt,aG,aC,by clear hrule hout hW hru hok hsn hw4 hz hs hqe hq hr;simp_all<;>omega⟩
       ·refine z7 Z Z c2<|z7 Z Z c2<|z7 Z Z c2<|z7 Z Z c2<|z7 Z Z c2<|z7 Z Z c2<|z7 Z Z c2<|z7 Z Z c2<|z7 Z Z c2<|aq Z c2 Z<|z6 ?_
        exact ⟨_,pt,aG,aC,by clear hrule hout hW hru hok hsn hw4 hz hs hqe hq hr;simp_all<;>omega⟩
      ·refine z7 Z Z c1<|z7 Z Z c1<|aq Z c1 Z<|ai Z<|z7 Z Z Z<|z7 Z Z Z<|z7 Z Z Z<|z7 Z Z Z<|z7 Z Z Z<|z7 Z Z Z<|z7 Z Z Z<|z7 Z Z Z<|z7 Z Z Z<|aq Z Z Z<|z6 ?_
       exact ⟨_,pt,aG,aC,by clear hrule hout hW hru hok hsn hw4 hz hs hqe hq hr;simp_all<;>omega⟩
     ·rintro u hu
      subst hu
      refine yf (γ:=Unit) [0,1,6,7,14,15] (fun w=>[]) (fun w=>[(i7,.cells 115 (bg q)),(i,.grow 2 T (lC A)),(0,bj bp P),(0,bj bs Sh)]) (fun w=>True) ?_ (fun _ _ h=>h) ?_
      ·refine zp Z (fun c4=>?_) (fun c4=>?_)
       ·refine aM<|za (zz (cps:=[(0,[_])]) (rs:=[_,.int .i64 0]) rS Z Z Z)<|zq jy Z Z Z Z Z Z .head Z<|z6 ?_
        exact ⟨(),pt,trivial,⟨_,(.refl _),(by rw[hqe,if_pos c4];rfl)⟩,trivial⟩
       ·refine zd ?_
        exact ⟨(),pt,trivial,⟨_,(.refl _),(by rw[hqe,if_neg c4])⟩,trivial⟩
      ·rintro _ _
       refine yf (γ:=Unit) [0,1,14,15] (fun w=>[(5,.bool true)]) (fun w=>[(i7,.cells 115 (bg q)),(i,.grow 2 T (lC (A.set k q))),(0,bj bp P),(0,bj bs Sh)]) (fun w=>True) ?_ (fun _ _ h=>h) ?_
       ·refine y7 (fun j=>Nat.beq j 7) (by kernel_rfl) Z (zn (.r (.r (.rest _))))<|au 0 Z (gS Z)<|au 1 Z (yr Z)<|au 2 Z (cA Z6 Z X0 Z Z)<|au 3 Z (yo (c:=.own _ _) Xc Z)<|au 4 Z (cG Z)<|au 5 Z (q8 Y3 jy Z ⟨_,.head⟩ Z)<|au 6 Z (qk (j:=k) Y2 jy Z Z Z ⟨_,.t1⟩ hlen (by omega))<|yx<|q1 (i:=7) Z (by kernel_rfl) (by kernel_rfl)<|az.storeR (j:=k) jy Z Z .t1 (by rw[hlen];exact hk2)<|z6<|q1 (i:=8) Z (by kernel_rfl) (by kernel_rfl)<|ac Z<|z6<|yz (by kernel_rfl) ?_
        exact ⟨(),e7,aG,aC,trivial⟩
       ·rintro _ _
        refine yg (qi .head)<|aM<|aA Z Z<|aa Z<|z6 ?_
        exact ⟨(k+1,A.set k q,true),dC,di,aC,⟨hk2,hsn.symm,hok⟩,by dsimp only;omega⟩
 ·have hkn:k=S.n+1:=by simp at ck;omega
  subst hkn
  have hs:(A,fl)=z:=by rw[←hz];exact hs
  subst hs
  refine y9<|ah<|ai Z<|ac Z<|z6<|zg<|zk (x:=.bool _) Z ?_
  exact ⟨rfl,.d0⟩
theorem AP {S:Sd} {A:List b7} {v:Int} (h:¬(v≠S.s∧bU S.up (dF A v) (bW S A v)=true)):Du S A v=A:=if_neg h
theorem B3 {S:Sd} {A:List b7} {v:Int} (h:v≠S.s∧bU S.up (dF A v) (bW S A v)=true):Du S A v=A.set v.toNat (bW S A v):=if_pos h
set_option maxHeartbeats 8000000 in
theorem u7 (S:Sd) (rows:List (List dI)) (P Sh:List (Int × AV)) (hW:Lr S rows P Sh) (A0:List b7) (hA0:iU S A0) (bp bs i:Nat) (T:TypeId) :
  ba prog E 43 [JU S rows bp bs i] (EI i T A0 bp bs P Sh) fun y O=>y=.tup []∧O=EI i T (LQ S A0) bp bs P Sh:=by
 have hn:=hW.nl
 have hs0:=hW.s0
 have hrule:=fun A hA v hv=>rT (E:=E) S rows P Sh hW A hA bp bs i T v hv
 have hout:=fun a b=>om (E:=E) S.up S.s (ma rows) bp bs (.own i (S.n+1)) a b
 refine ba.now2 ?_
 unfold EI JU at hrule ⊢
 unfold ol at hrule hout ⊢
 refine zo func43 Z (by decide) Z<|ah<|za (gS Z)<|za (yr Z)<|ae Z6 Z X0 Z Z<|za (yo (c:=.own _ _) Xc Z)<|za (Gv.lenO Y2 Z)<|aa Z<|z6<|zh<|ya (γ:=Nat) [0,8] (fun k=>[(9,.int .i64 k)]) (fun k=>[(i,.grow 2 T (lC (sM S k A0))),(0,bj bp P),(0,bj bs Sh)]) (fun k=>k≤S.n+1) (fun k=>S.n+1 - k) 0 aG aC (qt _) ?_
 rintro k hk
 refine ah<|aw Z Z<|z6<|zc<|zp Z (fun ck=>?_) (fun ck=>?_)
 ·have hk2:k<S.n+1:=by simp at ck;omega
  have hA:=px hs0 hA0 k hk
  have hsn:=n7 S k A0
  obtain ⟨A,hAe⟩:∃A,sM S k A0=A:=⟨_,rfl⟩
  rw[hAe] at hA hsn ⊢
  have hlen:=hA.len
  have hgk:=jC (A:=A) (v:=(k:Int)) (by omega) (by omega)
  obtain ⟨r,hr⟩:∃r,bW S A k=r:=⟨_,rfl⟩
  have hru:=hrule A hA k (by omega)
  rw[hr] at hru
  refine zd<|zc<|zh<|ah<|aa Z<|ay Z<|z6<|ah<|za (gS Z)<|aa Z<|zu Z (zn (.l (.l (.l (.rest _))))) (hru) ?_
  rintro r14 O14 ⟨rfl,rfl⟩
  refine zy (cs:=[.int .i64 0,.int .i64 0]) Yo Z Z<|fun i3=>zq jy Z Z Z Z Z Z .head Z<|zf (yd (t:=3) Z .head)<|z6<|zc<|yf (γ:=Bool) [0,2,3,8,9] (fun u=>[(32,.bool u)]) (fun u=>[(i,.grow 2 T (lC A)),(0,bj bp P),(0,bj bs Sh)]) (fun u=>u=decide ((k:Int)≠S.s∧bU S.up (dF A k) (bW S A k)=true)) ?_ (fun _ _ h=>h) ?_
  ·refine y7 (fun j=>false) (by kernel_rfl) Z (zn (.rest _))<|au 0 Z (cG Z)<|au 1 Z (gS Z)<|au 2 Z (yr Z)<|au 3 Z (cA Z6 Z ja Z Z)<|au 4 Z (du jc Z)<|au 5 Z (qn Z Z)<|au 6 Z (l5 Z)<|q4 (s:=21) Z (fun c1=>?_) (fun c1=>?_)
   ·have h1:¬(k:Int)=S.s:=eB c1
    refine bB 7 Z Z Z c1 (gS Z)<|bB 8 Z Z Z c1 (gS Z)<|bB 9 Z Z Z c1 (yr Z)<|bB 10 Z Z Z c1 (cA Z6 Z X0 Z Z)<|bB 11 Z Z Z c1 (yo (c:=.own _ _) Xc Z)<|bB 12 Z Z Z c1 (cG Z)<|bB 15 Z Z Z c1 (yk Y3 jy Z Z)<|aV 13 Z<|z8 Z Z c1<|za (qk (j:=k) Y2 jy Z Z Z ⟨_,.head⟩ hlen (by omega))<|z6<|aV 14 Z<|z8 Z Z c1<|za (Gv.loadR (j:=k) Y3 jy Z ⟨_,.head⟩ hgk)<|z6<|aV 16 Z<|z8 Z Z c1<|ze (hout (dF A k) r) Z<|z6<|au 17 Z (oB Z c1 Z)<|bY ?_
    exact ⟨_,iT,aG,aC,by rw[KS h1,hr]⟩
   ·have h1:(k:Int)=S.s:=eF c1
    refine bi 7 Z Z Z c1<|bi 8 Z Z Z c1<|bi 9 Z Z Z c1<|bi 10 Z Z Z c1<|bi 11 Z Z Z c1<|bi 12 Z Z Z c1<|bi 13 Z Z Z c1<|bi 14 Z Z Z c1<|bi 15 Z Z Z c1<|bi 16 Z Z Z c1<|au 17 Z (kY Z c1 Z)<|bY ?_
    exact ⟨_,iT,aG,aC,by rw[w8 (fun h=>h.1 h1)]⟩
  ·rintro u hu
   subst hu
   refine zp Z (fun c=>?_) (fun c=>?_)
   ·rw[B3 c,hr] at hsn
    refine yf (γ:=Unit) [0,8,9] (fun w=>[]) (fun w=>[(i,.grow 2 T (lC (A.set k r))),(0,bj bp P),(0,bj bs Sh)]) (fun w=>True) ?_ (fun _ _ h=>h) ?_
    ·refine y7 (fun j=>Nat.beq j 7) (by kernel_rfl) Z (zn (.rest _))<|au 0 Z (gS Z)<|au 1 Z (yr Z)<|au 2 Z (cA Z6 Z X0 Z Z)<|au 3 Z (yo (c:=.own _ _) Xc Z)<|au 4 Z (cG Z)<|au 5 Z (yk Y3 jy Z Z)<|aV 6 Z<|za (qk (j:=k) Y2 jy Z Z Z ⟨_,.head⟩ hlen (by omega))<|z6<|yx<|q1 (i:=7) Z (by kernel_rfl) (by kernel_rfl)<|az.storeR (j:=k) jy Z Z .head (by rw[hlen];exact hk2)<|z6<|yz (by kernel_rfl) ?_
     exact ⟨(),dC,trivial,aC,trivial⟩
    ·rintro _ _
     refine aM<|aA Z Z<|aa Z<|z6 ?_
     exact ⟨k+1,di,aG,⟨_,(.refl _),(by rw[hsn];rfl)⟩,hk2,by omega⟩
   ·rw[AP c] at hsn
    refine zd<|aM<|aA Z Z<|aa Z<|z6 ?_
    exact ⟨k+1,di,aG,⟨_,(.refl _),(by rw[hsn])⟩,hk2,by omega⟩
 ·have hkn:k=S.n+1:=by simp at ck;omega
  subst hkn
  refine y9<|ym ?_
  exact ⟨rfl,.d0⟩
end
section
open Go.Proofs.Tryz
variable {α:Type}
variable {E:World} {P:Program} {ops:Array Oper} {K:aS→OL→Prop} {env:aS} {O O' O'':OL} {rest:List Oper} {n:Nat}
variable {d ty:Nat} {pos:String} {af:Array Edge} {x y z:Operand} {t u e T:TypeId}
theorem az.nestSet {c:fj α} {b j m i n1 k:Nat} {rows:List (List α)} {r r0:List α} {cs:List AV} (hs1:∀w,(sizeOf t).run P w=.ok 1 w) (hx:bb env x=Fu b j) (hy:bb env y=.own i n1) (hr0:rows[j]?=some r0)
  (hP0:dw O i (.grow k e cs) O') (hO:gr O' m (cJ c T e b rows) (cJ c T e b (rows.set j r)) O'') (hk:k=c.k) (hcs:cs=c.av r) (hn1:r.length=n1) (kk:az P E ops K rest env O'') :
  az P E ops K (Oper.mk none (.store t x y) ty pos af none::rest) env O:=fun I F ρ w h1 h2=>by
 obtain ⟨htop,L,hL,hS⟩:=h2
 have hP:dw O i (.grow c.k e (c.av r)) O':=by subst hk hcs;exact hP0
 have hx:=gy h1 hx
 have h3:=h1.ev y
 rw[hy] at h3
 obtain ⟨b1,c1,e1,ey⟩:=h3
 obtain ⟨A,B,hp,⟨b1',c1',n',vs,e2,hvs,hvc,hown⟩,hB⟩:=hP.rep hL
 simp only at e2
 rw[e1] at e2
 simp only[Option.some.injEq,Prod.mk.injEq] at e2
 obtain ⟨rfl,rfl⟩:=e2
 have hv:=c.av_un hvs
 subst hv
 have hnn:n'=n1:=by have:=hown.1;rw[c.vs_len,hn1] at this;exact (Nat.eq_of_mul_eq_mul_right c.pos this).symm
 subst hnn
 obtain ⟨A2,B2,hp2,⟨hs,B0,rfl,hN⟩,hback⟩:=hO.rep hB
 obtain ⟨a0,n0,cap0,A1,B1,g1,g2,g3,hole⟩:=hN.get hr0
 obtain ⟨L',k1,k2⟩:=hole r _ _ _ A hown
 have hjl:j<hs.length:=(List.getElem?_eq_some_iff.1 g1).1
 have hS1:SL I.k (A1++([(b,Obj.cells hs.toArray T (0,0))]++(A++(B1++(B2++F))))) E w:=hS.perm (by
  have e3:((b,Obj.cells hs.toArray T (0,0))::(A++(B0++(B2++F)))).Perm (L++F):=by
   refine List.Perm.trans ?_ ((hp.append_right F).symm)
   refine List.Perm.trans ?_ (((hp2.append_left A).append_right F).symm)
   simp only[qs,List.cons_append,List.nil_append]
   exact (List.perm_middle).symm
  refine List.Perm.trans ?_ e3
  refine List.Perm.trans ?_ (List.Perm.cons _ (((g3.append_right (B2++F)).symm).append_left A))
  simp only[qs,List.cons_append,List.nil_append]
  refine List.Perm.trans (List.perm_middle) (List.Perm.cons _ ?_)
  rw[←qs,←qs A A1]
  exact List.perm_append_comm.append_right _)
 have hS2:SL I.k ([(b,Obj.cells hs.toArray T (0,0))]++(A++(B1++(B2++F)))) E w:=hS1.dropAll
 refine bP.store1 (cs:=hs) (off:=j) hs1 hx ey Z hjl hS2 fun w' hS'=>?_
 obtain ⟨L2,h7,h8⟩:=hback (G.le.refl I) (A':=(b,.cells (hs.set j (.slice (adr b1) n' c1)).toArray T (0,0))::L') ⟨_,L',rfl,k1⟩
 refine kk I F _ _ h1 ⟨htop,L2,h7,hS'.perm ?_⟩
 refine (h8.append_right F).trans ?_
 simp only[List.cons_append,List.nil_append,qs]
 refine List.Perm.cons _ ?_
 have:=k2.append_right (B2++F)
 simpa [qs] using this
end
end Go.Proofs.YtbanfokidalbaaaGreatDoor
