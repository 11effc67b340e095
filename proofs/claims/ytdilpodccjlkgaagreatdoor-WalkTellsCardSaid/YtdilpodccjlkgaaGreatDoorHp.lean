/- Numbers without the same told twice, as the program does it: what is told at each place, what is kept. Plain law. No conditions. -/
import Derived.Test.YtdilpodccjlkgaaGreatDoorHo
import Derived.Test.YtdilpodccjlkgaaGreatDoorHn
import Derived.Test.YtdilpodccjlkgaaGreatDoorHj
import Derived.Test.YtdilpodccjlkgaaGreatDoorHm
set_option linter.unusedVariables false
set_option linter.unusedSimpArgs false
set_option linter.unusedSectionVars false
namespace Go.Proofs.YtdilpodccjlkgaaGreatDoor
open Go.Proofs.Tryz
open Go.Proofs Go.Lib Go.Shelf Go.RowKit
variable {E:World}
set_option maxRecDepth 20000
section
variable {f:ad} {K:KS} {t pr a9 a10:AV} {iw js jl jm jp:Nat} {M:List Int}
theorem sG (K:KS) (x:aF):(dA f K x).p=K.p:=by
 unfold dA;split
 ·rw[cG,cG]
 ·rfl
theorem DD (K:KS) (x:aF):(gQ f K x).p=K.p:=by
 unfold gQ;split
 ·rw[cG,sG]
 ·exact sG K x
theorem E9 (K:KS) (x:aF):(jD f K x).p=K.p:=by
 unfold jD;repeat' split
 all_goals simp only[mY]
theorem jF (K:KS) (a b:Int):(hU K a b).p=K.p:=by unfold hU;rw[cG,cG]
theorem sH (K:KS) (x:aF):(gR f K x).p=K.p:=by
 unfold gR;repeat' split
 ·rw[cG,cG]
 ·exact jF ..
 ·exact jF ..
 ·exact E9 ..
 ·exact DD ..
 ·rfl
theorem xq (hK:KB f K) {x:aF} (hd:aJ f x.dst) (h0:aJ f (bc x)):KB f (dA f K x):=by
 unfold dA
 split
 ·exact (hK.add d5 hd).add hd h0
 ·exact hK
theorem lO (jl jp np:Nat) (K:KS) (hK:KB f K) {a b:Int} (ha:aJ f a) (hb:aJ f b) :
  aR prog E 67 [.po iw 0,.int .i64 a,.int .i64 b] [(iw,.cells 75 (lm f t pr js jp np a9 a10)),(js,.cells 136 [.int .i64 ((f.vars.length+1:Nat):Int),.own jl K.l.length,.own jm M.length]),(jl,.grow 3 180 (K.l.map bf).flatten),(jm,.grow 1 3 (cI M))]
   (fun y O=>∃g:Nat,y=.tup []∧O=[(iw,.cells 75 (lm f t pr js jp np a9 a10)),(js,.cells 136 [.int .i64 ((f.vars.length+1:Nat):Int),.own g (hU K a b).l.length,.own jm M.length]),(g,.grow 3 180 ((hU K a b).l.map bf).flatten),(jm,.grow 1 3 (cI M))]∧True):=by
 have:=wb (E:=E) (.fro 2 (f.vars.map fq)) (.fro 1 (f.params.map cW)) (.fro 7 (f.blocks.map cZ)) t (.fro 2 ((cE f).map eP.row)) pr (.own jp np) a9 a10 iw js jl jm (f.vars.length+1) (bQ f) K.l M hK.len (ed ha) (ed hb)
 unfold hU
 rw[wc,wc]
 exact this
variable (hv:f.vars.length≤1000)
include hv
set_option maxHeartbeats 4000000 in
theorem wd (hK:KB f K) (x:aF) (hF:dg f x) (hop:x.op=5∨x.op=6) :
  aR prog E 111 [.po iw 0,.agg (aP x)] (iu f t pr a9 a10 iw js jl jm jp K M) (fun y O=>∃g:Nat,y=.tup []∧O=iu f t pr a9 a10 iw js g jm jp (gQ f K x) M∧True):=by
 refine yu (γ:=Nat) (x:=fun g=>.tup []) (M:=fun g=>iu f t pr a9 a10 iw js g jm jp (gQ f K x) M) (p:=fun _=>True) ?_
 have h1:1<x.args.length:=by rcases hop with e|e<;>(rw[hF.cnt e];decide)
 have hd:aJ f x.dst:=by rcases hop with e|e<;>exact bv (hF.d e rfl)
 have n0:aJ f (bc x):=bv (hF.a0 (by omega))
 have n1:aJ f (bC x):=bv (hF.a1 h1)
 have nn:aJ f (bQ f):=d5
 have hpos:=fun v (h:aJ f v)=>En (E:=E) (t:=t) (pr:=pr) (a9:=a9) (a10:=a10) (iw:=iw) (js:=js) (jl:=jl) (jm:=jm) (jp:=jp) (M:=M) hv hK h
 have add:=fun jl K hK a b (ha:aJ f a) (hb:aJ f b) c=>gx (E:=E) (js:=js) (jm:=jm) (M:=M) jl K hK ha hb c
 unfold iu at *
 refine zq func111 U (by decide) U<|ae<|y9 (cs:=_) U U U<|z6<|zd<|zw (fun j=>false) (by kernel_rfl) U (zh (.rest _))<|ak 0 U (bx j5 U j6 U U)<|ak 1 U (b7 j7 U)<|ak 2 U (bx j5 U j8 U U)<|ak 3 U (dx j9 U)<|ak 4 U (bh 0 wz j6 U U U (bn (by omega)))<|ak 5 U (b7 j7 U)<|ak 6 U (bx j5 U j8 U U)<|ak 7 U (dx j9 U)<|ak 8 U (bh 1 wz j6 U U U (bw h1))<|ak 9 U (b7 j7 U)<|ak 10 U (mA U)<|ak 11 U (mA U)<|ak 12 U (mA U)<|bY<|ae<|aE U<|aa U<|zr U (zh (.l (.l (.l (.l (.l (.rest _))))))) (hpos _ n0) ?_
 rintro r21 O21 ⟨rfl,rfl⟩
 refine aE U<|aa U<|zr U (zh (.l (.l (.l (.l (.l (.rest _))))))) (hpos _ n1) ?_
 rintro r24 O24 ⟨rfl,rfl⟩
 refine ab U<|ab U<|z6<|zd<|zd<|ya (γ:=Bool) [0,3,4,5,6,8] (fun u=>[(33,.bool u)]) (fun u=>[(iw,.cells 75 (lm f t pr js jp K.p.length a9 a10)),(js,.cells 136 [.int .i64 ((f.vars.length+1:Nat):Int),.own jl K.l.length,.own jm M.length]),(jl,.grow 3 180 (K.l.map bf).flatten),(jm,.grow 1 3 (cI M)),(jp,.grow 2 187 (K.p.map cD).flatten)]) (fun u=>u=decide (eg f K (bc x)=true∧(eg f K (bC x)=true∨x.op=6))) ?_ (fun _ _ h=>h) ?_
 ·refine aO<|aj U<|aj U<|zo (s:=26) U (fun c1=>?_) (fun c1=>?_)
  ·refine z8 U U c1<|aj U<|z8 U U c1<|aj U<|zo (s:=28) U (fun c2=>?_) (fun c2=>?_)
   ·refine z7 U U c2<|z7 U U c2<|z7 U U c2<|z8 U U c1<|aq U c2 U<|aq U c1 U<|z6 ?_
    exact ⟨_,(by repeat (first|with_reducible exact zp _ _|refine zz rfl ?_)),aH,aD,by simp_all⟩
   ·refine z8 U U c2<|ao j5 U jy U U<|z8 U U c2<|ay Z2 U<|z8 U U c2<|ai U U<|z8 U U c1<|au U c2 U<|aq U c1 U<|z6 ?_
    exact ⟨_,(by repeat (first|with_reducible exact zp _ _|refine zz rfl ?_)),aH,aD,by simp_all⟩
  ·refine z7 U U c1<|z7 U U c1<|zk U U<|zk U U<|zk U U<|z7 U U c1<|au U c1 U<|z6 ?_
   exact ⟨_,(by repeat (first|with_reducible exact zp _ _|refine zz rfl ?_)),aH,aD,by simp_all⟩
 ·rintro u hu
  refine ya (γ:=Nat) [0,3,4,6,8] (fun g=>[]) (fun g=>[(iw,.cells 75 (lm f t pr js jp K.p.length a9 a10)),(js,.cells 136 [.int .i64 ((f.vars.length+1:Nat):Int),.own g (dA f K x).l.length,.own jm M.length]),(g,.grow 3 180 ((dA f K x).l.map bf).flatten),(jm,.grow 1 3 (cI M)),(jp,.grow 2 187 (K.p.map cD).flatten)]) (fun g=>True) ?_ (fun _ _ h=>h) ?_
  ·refine zy U (fun c=>?_) (fun c=>?_)
   ·have hA:dA f K x=cQ (cQ K (bQ f) x.dst 0) x.dst (bc x) 0:=by unfold dA;rw[if_pos (w4 (hu▸c))]
    refine zd<|zw (fun j=>false) (by kernel_rfl) U (zh (.r (.rest _)))<|ak 0 U (ef U)<|ak 1 U (yb U)<|ak 2 U (zn je U Z8 (by decide) U U)<|ak 3 U (zt (c:=.po _ _) Zg U ⟨_,.head⟩ U)<|ak 4 U (ef U)<|ak 5 U (yb U)<|ak 6 U (zn je U j6 (by decide) U U)<|ak 7 U (zt (c:=.int _ _) j7 U ⟨_,.head⟩ U)<|ak 8 U (dq U)<|ba 9 U<|zr U (zh (.l (.l (.l (.r (.rest _)))))) (add jl K hK _ _ nn hd 0) ?_
    rintro r43 O43 ⟨⟨j1,u1⟩,rfl,rfl,_⟩
    refine z6<|bY<|y3 (zb (zc .t4))<|y3 (zb (zc .t4))<|y3 (zb (zc .t4))<|y3 (zb (zc .t4))<|y3 (zb (zc .t4))<|aO<|aE U<|aw U<|za (zn je U Z8 (by decide) U U)<|za (zt (c:=.po _ _) Zg U ⟨_,.head⟩ U)<|aa U<|aa U<|zr U (zh (.r (.l (.l (.l (.r (.rest _))))))) (add j1 _ (hK.add nn hd) _ _ hd n0 0) ?_
    rintro r50 O50 ⟨⟨j2,u2⟩,rfl,rfl,_⟩
    refine zf (zb (zc .t4))<|zf (zb (zc .t3))<|zf (zb (zc .t3))<|zf (zb (zc .t3))<|zf (zb (zc .t4))<|z6 ?_
    exact ⟨j2,(by repeat (first|with_reducible exact zp _ _|refine zz rfl ?_)),trivial,⟨_,(.refl _),by rw[hA]⟩,trivial⟩
   ·have hA:dA f K x=K:=by unfold dA;rw[if_neg (w5 (hu▸c))]
    refine zg ?_
    exact ⟨jl,(by repeat (first|with_reducible exact zp _ _|refine zz rfl ?_)),trivial,⟨_,(.refl _),by simp only[hA,qw]⟩,trivial⟩
  ·rintro jq _
   have hK1:=xq hK hd n0
   have hp1:(dA f K x).p=K.p:=sG K x
   refine zd<|ya (γ:=Bool) [0,4,6] (fun w=>[(56,.bool w)]) (fun w=>[(iw,.cells 75 (lm f t pr js jp K.p.length a9 a10)),(js,.cells 136 [.int .i64 ((f.vars.length+1:Nat):Int),.own jq (dA f K x).l.length,.own jm M.length]),(jq,.grow 3 180 ((dA f K x).l.map bf).flatten),(jm,.grow 1 3 (cI M)),(jp,.grow 2 187 (K.p.map cD).flatten)]) (fun w=>w=decide (eg f K (bC x)=true∧x.op=6)) ?_ (fun _ _ h=>h) ?_
   ·refine aO<|aj U<|aj U<|zo (s:=52) U (fun c3=>?_) (fun c3=>?_)
    ·refine z8 U U c3<|ao j5 U jy U U<|z8 U U c3<|ay Z2 U<|z8 U U c3<|ai U U<|aq U c3 U<|z6 ?_
     exact ⟨_,(by repeat (first|with_reducible exact zp _ _|refine zz rfl ?_)),aH,aD,by simp_all⟩
    ·refine z7 U U c3<|z7 U U c3<|z7 U U c3<|au U c3 U<|z6 ?_
     exact ⟨_,(by repeat (first|with_reducible exact zp _ _|refine zz rfl ?_)),aH,aD,by simp_all⟩
   ·rintro w hw
    refine zy U (fun c=>?_) (fun c=>?_)
    ·have hA:gQ f K x=cQ (dA f K x) x.dst (bC x) (-1):=by unfold gQ;rw[if_pos (w4 (hw▸c))]
     refine aO<|aE U<|aw U<|za (zn je U Z8 (by decide) U U)<|za (zt (c:=.po _ _) Zg U ⟨_,.head⟩ U)<|aa U<|aa U<|zr U (zh (.r (.l (.l (.l (.r (.rest _))))))) (add jq _ hK1 _ _ hd n1 (-1)) ?_
     rintro r63 O63 ⟨⟨j1,u1⟩,rfl,rfl,_⟩
     refine z6<|ye (zb (zc .t4))<|ye (zb (zc .t3))<|ye (zb (zc .t3))<|ye (zb (zc .t3))<|ye (zb (zc .t4))<|yh ?_
     exact ⟨j1,rfl,⟨_,.refl _,by rw[hA,cG,hp1]⟩,trivial⟩
    ·have hA:gQ f K x=dA f K x:=by unfold gQ;rw[if_neg (w5 (hw▸c))]
     refine zg<|yh ?_
     exact ⟨jq,rfl,⟨_,.refl _,by rw[hA,hp1]⟩,trivial⟩
set_option maxHeartbeats 4000000 in
theorem we (hK:KB f K) (hP:uB K.p) (x:aF) (hF:dg f x) (hty:aZ f x.dst=true∨¬x.op=1) :
  aR prog E 70 [.po iw 0,.agg (aP x)] (iu f t pr a9 a10 iw js jl jm jp K M) (fun y O=>∃g:Nat,y=.tup []∧O=iu f t pr a9 a10 iw js g jm jp (gR f K x) M∧True):=by
 refine yu (γ:=Nat) (x:=fun g=>.tup []) (M:=fun g=>iu f t pr a9 a10 iw js g jm jp (gR f K x) M) (p:=fun _=>True) ?_
 have nn:aJ f (bQ f):=d5
 have a0:∀{k:Int},x.op=k→0<([0,1,2,2,2,2,2,2,2,2,1,2,1,2,3,1,0,1,2,1,1,2,2,2,1,2,2][k.toNat]?).getD 0→aJ f (bc x)∧0<x.args.length:=fun e h=>⟨bv (hF.a0 (by rw[hF.cnt e];exact h)),by rw[hF.cnt e];exact h⟩
 have hsum:=fun h=>zV (E:=E) (t:=t) (pr:=pr) (a9:=a9) (a10:=a10) (iw:=iw) (js:=js) (jl:=jl) (jm:=jm) (jp:=jp) (M:=M) hv hK hP x hF h
 have hrest:=fun h=>wd (E:=E) (t:=t) (pr:=pr) (a9:=a9) (a10:=a10) (iw:=iw) (js:=js) (jl:=jl) (jm:=jm) (jp:=jp) (M:=M) hv hK x hF h
 have add:=fun jl K hK a b (ha:aJ f a) (hb:aJ f b) c=>gx (E:=E) (js:=js) (jm:=jm) (M:=M) jl K hK ha hb c
 have same:=fun a b (ha:aJ f a) (hb:aJ f b)=>lO (E:=E) (t:=t) (pr:=pr) (a9:=a9) (a10:=a10) (iw:=iw) (js:=js) (jm:=jm) (M:=M) jl jp K.p.length K hK ha hb
 have hpm:=sH (f:=f) K x
 unfold iu at *
 refine zq func70 U (by decide) U<|ae<|y9 (cs:=_) U U U<|z6<|zj<|zd<|ya (γ:=Bool) [0,3] (fun u=>[(4,.bool u)]) (fun u=>[(iw,.cells 75 (lm f t pr js jp K.p.length a9 a10)),(js,.cells 136 [.int .i64 ((f.vars.length+1:Nat):Int),.own jl K.l.length,.own jm M.length]),(jl,.grow 3 180 (K.l.map bf).flatten),(jm,.grow 1 3 (cI M)),(jp,.grow 2 187 (K.p.map cD).flatten)]) (fun u=>u=decide (x.op=0∧-bo≤x.num∧x.num≤bo)) ?_ (fun _ _ h=>h) ?_
 ·refine aO<|ao j5 U jy U U<|ay Z2 U<|ai U U<|aj U<|zo (s:=8) U (fun c4=>?_) (fun c4=>?_)
  ·refine z8 U U c4<|ao j5 U Za U U<|z8 U U c4<|ay Zj U<|z8 U U c4<|za (yy U U)<|aq U c4 U<|aj U<|zo (s:=13) U (fun c5=>?_) (fun c5=>?_)
   ·refine z8 U U c5<|ao j5 U Za U U<|z8 U U c5<|ay Zj U<|z8 U U c5<|za (qb U U)<|aq U c5 U<|ab U<|z6 ?_
    exact ⟨_,(by repeat (first|with_reducible exact zp _ _|refine zz rfl ?_)),aH,aD,by unfold bo;simp_all<;>omega⟩
   ·refine z7 U U c5<|z7 U U c5<|z7 U U c5<|au U c5 U<|ab U<|z6 ?_
    exact ⟨_,(by repeat (first|with_reducible exact zp _ _|refine zz rfl ?_)),aH,aD,by unfold bo;simp_all<;>omega⟩
  ·refine z7 U U c4<|z7 U U c4<|z7 U U c4<|au U c4 U<|aj U<|z7 U U U<|z7 U U U<|z7 U U U<|au U U U<|ab U<|z6 ?_
   exact ⟨_,(by repeat (first|with_reducible exact zp _ _|refine zz rfl ?_)),aH,aD,by unfold bo;simp_all<;>omega⟩
 ·rintro u hu
  unfold gR
  refine zy U (fun c0=>?_) (fun c0=>?_)
  ·have c0:=w4 (hu▸c0)
   rw[if_pos c0]
   unfold bo at c0
   have hd:aJ f x.dst:=bv (hF.d c0.1 rfl)
   have hneg:IntKind.i64.wrap (0 - x.num)=-x.num:=by rw[rX];omega
   refine zd<|zw (fun j=>false) (by kernel_rfl) U (zh (.r (.rest _)))<|ak 0 U (ef U)<|ak 1 U (yb U)<|ak 2 U (zn je U Z8 (by decide) U U)<|ak 3 U (zt (c:=.po _ _) Zg U ⟨_,.head⟩ U)<|ak 4 U (bx j5 U j6 U U)<|ak 5 U (b7 j7 U)<|ak 6 U (ef U)<|ak 7 U (yb U)<|ak 8 U (zn je U j6 (by decide) U U)<|ak 9 U (zt (c:=.int _ _) j7 U ⟨_,.head⟩ U)<|ak 10 U (bx j5 U Za U U)<|ak 11 U (b7 Zj U)<|ba 12 U<|zr U (zh (.l (.l (.l (.r (.rest _)))))) (add jl K hK _ _ hd nn x.num) ?_
   rintro r30 O30 ⟨⟨j1,u1⟩,rfl,rfl,_⟩
   refine z6<|bY<|y3 (zb (zc .t4))<|y3 (zb (zc .t4))<|y3 (zb (zc .t4))<|y3 (zb (zc .t4))<|y3 (zb (zc .t4))<|zw (fun j=>false) (by kernel_rfl) U (zh (.r (.rest _)))<|ak 0 U (ef U)<|ak 1 U (yb U)<|ak 2 U (zn je U Z8 (by decide) U U)<|ak 3 U (zt (c:=.po _ _) Zg U ⟨_,.head⟩ U)<|ak 4 U (ef U)<|ak 5 U (yb U)<|ak 6 U (zn je U j6 (by decide) U U)<|ak 7 U (zt (c:=.int _ _) j7 U ⟨_,.head⟩ U)<|ak 8 U (bx j5 U j6 U U)<|ak 9 U (b7 j7 U)<|ak 10 U (bx j5 U Za U U)<|ak 11 U (b7 Zj U)<|ak 12 U (Gv.neg U)<|ba 13 U<|zr U (zh (.l (.l (.l (.r (.rest _)))))) (add j1 _ (hK.add hd nn) _ _ nn hd (IntKind.i64.wrap (0 - x.num))) ?_
   rintro r44 O44 ⟨⟨j2,u2⟩,rfl,rfl,_⟩
   refine z6<|bY<|ye (zb (zc .t4))<|ye (zb (zc .t4))<|ye (zb (zc .t4))<|ye (zb (zc .t4))<|ye (zb (zc .t4))<|yh ?_
   exact ⟨j2,rfl,⟨_,.refl _,by rw[cG,cG,hneg]⟩,trivial⟩
  ·have c0:=w5 (hu▸c0)
   rw[if_neg c0]
   refine zd<|zd<|ya (γ:=Bool) [0,3] (fun z=>[(45,.bool z)]) (fun z=>[(iw,.cells 75 (lm f t pr js jp K.p.length a9 a10)),(js,.cells 136 [.int .i64 ((f.vars.length+1:Nat):Int),.own jl K.l.length,.own jm M.length]),(jl,.grow 3 180 (K.l.map bf).flatten),(jm,.grow 1 3 (cI M)),(jp,.grow 2 187 (K.p.map cD).flatten)]) (fun z=>z=decide (x.op=1∧¬bp f x.dst=1)) ?_ (fun _ _ h=>h) ?_
   ·refine zw (fun j=>false) (by kernel_rfl) U (zh (.r (.rest _)))<|ak 0 U (bx j5 U jy U U)<|ak 1 U (b7 Z2 U)<|ak 2 U (Gv.eqlI U U)<|ak 3 U (l6 U)<|qe (s:=49) U (fun c1=>?_) (fun c1=>?_)
    ·have d1:x.op=1:=by simpa using c1
     obtain ⟨vr,hx,hv2,hk⟩:=iA (hty.resolve_right (fun h=>h d1))
     refine cR 4 U U U c1 (ef U)<|cR 5 U U U c1 (yb U)<|cR 6 U U U c1 (zn je U jf (by decide) U U)<|cR 7 U U U c1 (zn jg U Y4 (by decide) U U)<|cR 8 U U U c1 (zt (c:=.fro _ _) Yb U ⟨_,.head⟩ U)<|cR 9 U U U c1 (bx j5 U j6 U U)<|cR 10 U U U c1 (b7 j7 U)<|cR 11 U U U c1 (bh x.dst.toNat Z7 Y1 U U hv2 hx)<|cR 12 U U U c1 (bx Zi U Yq U U)<|cR 13 U U U c1 (b7 X4 U)<|cR 14 U U U c1 (Gv.neqI U U)<|ak 15 U (ta U c1 U)<|ak 16 U (lT U)<|bY ?_
     exact ⟨_,(by repeat (first|with_reducible exact zp _ _|refine zz rfl ?_)),aH,aD,by rw[hk,qt];simp[d1]⟩
    ·refine b9 4 U U U c1<|b9 5 U U U c1<|b9 6 U U U c1<|b9 7 U U U c1<|b9 8 U U U c1<|b9 9 U U U c1<|b9 10 U U U c1<|b9 11 U U U c1<|b9 12 U U U c1<|b9 13 U U U c1<|b9 14 U U U c1<|ak 15 U (qU U c1 U)<|ak 16 U (lT U)<|bY ?_
     exact ⟨_,(by repeat (first|with_reducible exact zp _ _|refine zz rfl ?_)),aH,aD,by simp_all⟩
   ·rintro z hz
    refine ya (γ:=Bool) [0,3] (fun z2=>[(45,.bool z2)]) (fun z2=>[(iw,.cells 75 (lm f t pr js jp K.p.length a9 a10)),(js,.cells 136 [.int .i64 ((f.vars.length+1:Nat):Int),.own jl K.l.length,.own jm M.length]),(jl,.grow 3 180 (K.l.map bf).flatten),(jm,.grow 1 3 (cI M)),(jp,.grow 2 187 (K.p.map cD).flatten)]) (fun z2=>z2=decide ((x.op=1∧¬bp f x.dst=1)∨x.op=12∨x.op=15)) ?_ (fun _ _ h=>h) ?_
    ·refine zy U (fun c6=>?_) (fun c6=>?_)
     ·refine zg ?_
      exact ⟨_,(by repeat (first|with_reducible exact zp _ _|refine zz rfl ?_)),aH,aD,by simp_all⟩
     ·refine ae<|ao j5 U jy U U<|ay Z2 U<|ai U U<|ab U<|z6<|zy U (fun c7=>?_) (fun c7=>?_)
      ·refine zg ?_
       exact ⟨_,(by repeat (first|with_reducible exact zp _ _|refine zz rfl ?_)),aH,aD,by simp_all⟩
      ·refine aO<|ao j5 U jy U U<|ay Z2 U<|ai U U<|ab U<|z6 ?_
       exact ⟨_,(by repeat (first|with_reducible exact zp _ _|refine zz rfl ?_)),aH,aD,by simp_all⟩
    ·rintro z2 hz2
     refine zy U (fun c=>?_) (fun c=>?_)
     ·have c:=w4 (hz2▸c)
      rw[if_pos c]
      have hd:aJ f x.dst:=by
       rcases c with e|e|e
       ·exact bv (hF.d e.1 rfl)
       ·exact bv (hF.d e rfl)
       ·exact bv (hF.d e rfl)
      have n0:aJ f (bc x)∧0<x.args.length:=by
       rcases c with e|e|e
       ·exact a0 e.1 (by decide)
       ·exact a0 e (by decide)
       ·exact a0 e (by decide)
      refine zw (fun j=>false) (by kernel_rfl) U (zh (.rest _))<|ak 0 U (ef U)<|ak 1 U (bx j5 U j6 U U)<|ak 2 U (b7 j7 U)<|ak 3 U (bx j5 U j8 U U)<|ak 4 U (dx j9 U)<|ak 5 U (bh 0 wz j6 U U U (bn n0.2))<|ak 6 U (b7 j7 U)<|ba 7 U<|zr U (zh (.l (.l (.l (.l (.r (.rest _))))))) (same _ _ hd n0.1) ?_
      rintro r75 O75 ⟨j1,rfl,rfl,_⟩
      refine z6<|bY<|ye (zb (zc .t4))<|ye (zb (zc .t4))<|ye (zb (zc .t4))<|ye (zb (zc .t4))<|ye (zb (zc .t4))<|yh ?_
      exact ⟨j1,rfl,⟨_,.refl _,by rw[jF]⟩,trivial⟩
     ·have c:=w5 (hz2▸c)
      rw[if_neg c]
      refine ae<|ao j5 U jy U U<|ay Z2 U<|ai U U<|ab U<|z6<|zu U (fun c16=>?_) (fun c16=>?_)
      ·have c16:x.op=16:=c16
       rw[if_pos c16]
       refine zw (fun j=>false) (by kernel_rfl) U (zh (.rest _))<|ak 0 U (ef U)<|ak 1 U (bx j5 U j6 U U)<|ak 2 U (b7 j7 U)<|ak 3 U (ef U)<|ak 4 U (yb U)<|ak 5 U (zn je U j6 (by decide) U U)<|ba 6 U<|za (zt (c:=.int _ _) j7 U ⟨_,.head⟩ U)<|z6<|ba 7 U<|zr U (zh (.l (.l (.l (.l (.r (.rest _))))))) (same _ _ (bv (hF.d c16 U)) nn) ?_
       rintro r87 O87 ⟨j1,rfl,rfl,_⟩
       refine z6<|bY<|ye (zb (zc .t4))<|ye (zb (zc .t4))<|ye (zb (zc .t4))<|ye (zb (zc .t4))<|ye (zb (zc .t4))<|yh ?_
       exact ⟨j1,rfl,⟨_,.refl _,by rw[jF]⟩,trivial⟩
      ·rw[if_neg (show ¬x.op=16 from c16)]
       refine zd<|ae<|ao j5 U jy U U<|ay Z2 U<|ai U U<|ab U<|z6<|ya (γ:=Bool) [0,3] (fun z3=>[(88,.bool z3)]) (fun z3=>[(iw,.cells 75 (lm f t pr js jp K.p.length a9 a10)),(js,.cells 136 [.int .i64 ((f.vars.length+1:Nat):Int),.own jl K.l.length,.own jm M.length]),(jl,.grow 3 180 (K.l.map bf).flatten),(jm,.grow 1 3 (cI M)),(jp,.grow 2 187 (K.p.map cD).flatten)]) (fun z3=>z3=decide (x.op=2∨x.op=3)) ?_ (fun _ _ h=>h) ?_
       ·refine zy U (fun c8=>?_) (fun c8=>?_)
        ·refine zg ?_
         exact ⟨_,(by repeat (first|with_reducible exact zp _ _|refine zz rfl ?_)),aH,aD,by simp_all⟩
        ·refine aO<|ao j5 U jy U U<|ay Z2 U<|ai U U<|ab U<|z6 ?_
         exact ⟨_,(by repeat (first|with_reducible exact zp _ _|refine zz rfl ?_)),aH,aD,by simp_all⟩
       ·rintro z3 hz3
        refine zy U (fun c2=>?_) (fun c2=>?_)
        ·have c2:=w4 (hz3▸c2)
         rw[if_pos c2]
         refine aO<|aE U<|ac Zk jv U U<|zr U (zh (.l (.l (.l (.l (.l (.rest _))))))) (hsum c2) ?_
         rintro r97 O97 ⟨j1,rfl,rfl,_⟩
         refine z6<|ye (zb (zc .t4))<|ye (zb (zc .t4))<|ye (zb (zc .t4))<|ye (zb (zc .t4))<|ye (zb (zc .t4))<|yh ?_
         exact ⟨j1,rfl,⟨_,.refl _,rfl⟩,trivial⟩
        ·have c2:=w5 (hz3▸c2)
         rw[if_neg c2]
         refine zd<|ae<|ao j5 U jy U U<|ay Z2 U<|ai U U<|ab U<|z6<|ya (γ:=Bool) [0,3] (fun z4=>[(98,.bool z4)]) (fun z4=>[(iw,.cells 75 (lm f t pr js jp K.p.length a9 a10)),(js,.cells 136 [.int .i64 ((f.vars.length+1:Nat):Int),.own jl K.l.length,.own jm M.length]),(jl,.grow 3 180 (K.l.map bf).flatten),(jm,.grow 1 3 (cI M)),(jp,.grow 2 187 (K.p.map cD).flatten)]) (fun z4=>z4=decide (x.op=5∨x.op=6)) ?_ (fun _ _ h=>h) ?_
         ·refine zy U (fun c9=>?_) (fun c9=>?_)
          ·refine zg ?_
           exact ⟨_,(by repeat (first|with_reducible exact zp _ _|refine zz rfl ?_)),aH,aD,by simp_all⟩
          ·refine aO<|ao j5 U jy U U<|ay Z2 U<|ai U U<|ab U<|z6 ?_
           exact ⟨_,(by repeat (first|with_reducible exact zp _ _|refine zz rfl ?_)),aH,aD,by simp_all⟩
         ·rintro z4 hz4
          refine zy U (fun c5=>?_) (fun c5=>?_)
          ·have c5:=w4 (hz4▸c5)
           rw[if_pos c5]
           refine aO<|aE U<|ac Zk jv U U<|zr U (zh (.l (.l (.l (.l (.l (.rest _))))))) (hrest c5) ?_
           rintro r107 O107 ⟨j1,rfl,rfl,_⟩
           refine z6<|ye (zb (zc .t4))<|ye (zb (zc .t4))<|ye (zb (zc .t4))<|ye (zb (zc .t4))<|ye (zb (zc .t4))<|yh ?_
           exact ⟨j1,rfl,⟨_,.refl _,rfl⟩,trivial⟩
          ·have c5:=w5 (hz4▸c5)
           rw[if_neg c5]
           refine zg<|yh ?_
           exact ⟨jl,rfl,⟨_,.refl _,rfl⟩,trivial⟩
end
end Go.Proofs.YtdilpodccjlkgaaGreatDoor
namespace Go.Proofs.YtdilpodccjlkgaaGreatDoor
open Go.Proofs.Tryz
open Go.Proofs Go.Lib Go.Shelf Go.RowKit
theorem Gm:cX prog 187 #[(0,1),(1,1)] [.int .i64 0,.raw (.slice none 0 0)]:=⟨_,_,underlying187,zeroValue187,fun w=>by kernel_rfl,rfl⟩
theorem Fa:cU prog 72 187 1 2 [.int .i64 0,.raw (.slice none 0 0)]:=⟨_,Xb,sizeOf187,zeroValue187,by decide,by decide,by kernel_rfl⟩
variable {E:World}
set_option maxRecDepth 20000
theorem DE (K:KS) (q:Int × List Int):(K.p.map cD).flatten++cD q=((K.p++[q]).map cD).flatten:=by simp
theorem nT (r:List (Int × List Int)):(r.map cD).flatten.length=r.length*2:=by
 induction r with
 |nil=>rfl
 |cons o r ih=>rw[List.map_cons,List.flatten_cons,qq,ih,List.length_cons];show 2+_=_;omega
theorem DF {f:ad} {x:aF} (hF:dg f x) (hc:18≤x.op∧x.op≤24):aJ f (bc x)∧0<x.args.length:=by
 have h:=hF.cnt (k:=x.op) rfl
 have h2:0<x.args.length:=by
  obtain ⟨k,hk,e⟩:∃k:Nat,k≤6∧x.op=18+(k:Int):=⟨(x.op - 18).toNat,by omega,by omega⟩
  rw[h,e]
  have:k=0∨k=1∨k=2∨k=3∨k=4∨k=5∨k=6:=by omega
  rcases this with rfl|rfl|rfl|rfl|rfl|rfl|rfl<;>decide
 exact ⟨bv (hF.a0 h2),h2⟩
section
variable {f:ad} {K:KS} {t pr a9 a10:AV} {iw js jl jm jp:Nat} {M:List Int}
theorem xr (K:KS) (x:aF):(iI f K x).p=K.p++[(x.op,x.args)]:=by
 unfold iI;repeat' split
 ·rw[cG,cG]
 ·rw[cG,cG]
 ·rw[cG]
 ·rw[cG]
 ·rfl
 ·rfl
variable (hv:f.vars.length≤1000)
include hv
set_option maxHeartbeats 4000000 in
theorem wg (hK:KB f K) (hP:uB K.p) (x:aF) (hF:dg f x) (hc:18≤x.op∧x.op≤24) :
  aR prog E 72 [.po iw 0,.agg (aP x)] (iu f t pr a9 a10 iw js jl jm jp K M) (fun y O=>∃g:Nat × Nat,y=.tup []∧O=iu f t pr a9 a10 iw js g.1 jm g.2 (iI f K x) M∧True):=by
 refine yu (γ:=Nat × Nat) (x:=fun g=>.tup []) (M:=fun g=>iu f t pr a9 a10 iw js g.1 jm g.2 (iI f K x) M) (p:=fun _=>True) ?_
 have nn:aJ f (bQ f):=d5
 have n0:=DF hF hc
 have a1:∀{k:Int},x.op=k→1<([0,1,2,2,2,2,2,2,2,2,1,2,1,2,3,1,0,1,2,1,1,2,2,2,1,2,2][k.toNat]?).getD 0→aJ f (bC x)∧1<x.args.length:=fun e h=>⟨bv (hF.a1 (by rw[hF.cnt e];exact h)),by rw[hF.cnt e];exact h⟩
 have hpl:=hP.1
 have hpf:=nT K.p
 obtain ⟨Q,hQ⟩:∃Q:KS,(⟨K.l,K.p++[(x.op,x.args)]⟩:KS)=Q:=⟨_,rfl⟩
 have hQB:KB f Q:=hQ▸hK.pass _
 have hQp:Q.p=K.p++[(x.op,x.args)]:=hQ▸rfl
 have hQl:Q.l=K.l:=hQ▸rfl
 have hpos:=fun jp=>En (E:=E) (t:=t) (pr:=pr) (a9:=a9) (a10:=a10) (iw:=iw) (js:=js) (jl:=jl) (jm:=jm) (jp:=jp) (M:=M) hv hQB n0.1
 have hup:=fun jp=>Gk (E:=E) (t:=t) (pr:=pr) (a9:=a9) (a10:=a10) (iw:=iw) (js:=js) (jl:=jl) (jm:=jm) (jp:=jp) (M:=M) hv hQB n0.1
 have hpe:eg f Q (bc x)=eg f K (bc x):=hQ▸rfl
 have hfe:b5 f K (bc x) (bQ f) 0=b5 f Q (bc x) (bQ f) 0:=hQ▸rfl
 have add:=fun jl K hK a b (ha:aJ f a) (hb:aJ f b) c=>gx (E:=E) (js:=js) (jm:=jm) (M:=M) jl K hK ha hb c
 unfold iu at *
 refine zq func72 U (by decide) U<|ae<|y9 (cs:=_) U U U<|z6<|zd<|zw (fun j=>Nat.beq j 14) (by kernel_rfl) U (zh (.r (.rest _)))<|ak 0 U (ef U)<|ak 1 U (ef U)<|ak 2 U (yb U)<|ak 3 U (zn je U sizeOf72 (by decide) U U)<|ak 4 U (zt (c:=.own _ _) isAgg72 U ⟨_,.head⟩ U)<|ak 5 U (bx j5 U jy U U)<|ak 6 U (b7 Z2 U)<|ak 7 U (bx j5 U j8 U U)<|ak 8 U (dx j9 U)<|ak 9 U (y5 (cps:=[(0,[_]),(1,[_])]) (rs:=[_,_]) Gm U U U)<|ba 10 U<|y4 (rows:=[[_,_]]) Fa U U U U U<|z6<|ba 11 U<|yj (k:=2) Xb type187 U U U U U (fun _=>.t3) hpf (by decide) U (by show (_+_)*32≤_;simp<;>omega) (by simp<;>omega)<|fun i18=>z6<|yx (i:=12) U (by kernel_rfl) (by kernel_rfl) (by kernel_rfl) (by kernel_rfl) (yb U)<|ak 13 U (zn je U sizeOf72 (by decide) U U)<|ym<|yi (i:=14) U (by kernel_rfl) (by kernel_rfl)<|yw (l:=[_]) (new:=[_,_,_,_,_,_,_,_,_,_,_]) sizeOf72 U U U U U U .head U U<|z6<|yo (by kernel_rfl)<|y3 (zb (zc .t4))<|y3 (zb (zc .t4))<|y3 (zb (zc .t4))<|y3 (zb (zc .t4))<|y3 (zb (zc .t4))<|y3 (aX.eq (show _=([(iw,.cells 75 (lm f t pr js i18 Q.p.length a9 a10)),(js,.cells 136 [.int .i64 ((f.vars.length+1:Nat):Int),.own jl Q.l.length,.own jm M.length]),(jl,.grow 3 180 (Q.l.map bf).flatten),(jm,.grow 1 3 (cI M)),(i18,.grow 2 187 (Q.p.map cD).flatten)]:OL) from (by rw[hQp,hQl,←DE,qq];rfl))) ?_
 have hcp:∀R:KS,R.p=Q.p→True:=fun _ _=>trivial
 unfold iI
 rw[hQ]
 refine ae<|ao j5 U j8 U U<|aI j9 U<|za (bh 0 wz j6 U U U (bn n0.2))<|ay j7 U<|ap U<|z6<|ae<|ao j5 U jy U U<|ay Z2 U<|z6<|zj<|ae<|ai U U<|ab U<|z6<|zu U (fun c18=>?_) (fun c18=>?_)
 ·have c18:x.op=18:=c18
  have h1:=a1 c18 (by decide)
  rw[if_pos c18]
  refine zd<|zw (fun j=>false) (by kernel_rfl) U (zh (.r (.rest _)))<|ak 0 U (ef U)<|ak 1 U (yb U)<|ak 2 U (zn je U Z8 (by decide) U U)<|ak 3 U (zt (c:=.po _ _) Zg U ⟨_,.head⟩ U)<|ak 4 U (ef U)<|ak 5 U (yb U)<|ak 6 U (zn je U j6 (by decide) U U)<|ak 7 U (zt (c:=.int _ _) j7 U ⟨_,.head⟩ U)<|ak 8 U (bx j5 U j8 U U)<|ak 9 U (dx j9 U)<|ak 10 U (bh 1 wz j6 U U U (bw h1.2))<|ak 11 U (b7 j7 U)<|ba 12 U<|zr U (zh (.l (.l (.l (.r (.rest _)))))) (add jl Q hQB _ _ nn h1.1 0) ?_
  rintro r41 O41 ⟨⟨j1,u1⟩,rfl,rfl,_⟩
  refine z6<|bY<|y3 (zb (zc .t4))<|y3 (zb (zc .t4))<|y3 (zb (zc .t4))<|y3 (zb (zc .t4))<|y3 (zb (zc .t4))<|zw (fun j=>false) (by kernel_rfl) U (zh (.r (.rest _)))<|ak 0 U (ef U)<|ak 1 U (yb U)<|ak 2 U (zn je U Z8 (by decide) U U)<|ak 3 U (zt (c:=.po _ _) Zg U ⟨_,.head⟩ U)<|ak 4 U (bx j5 U j8 U U)<|ak 5 U (dx j9 U)<|ak 6 U (bh 1 wz j6 U U U (bw h1.2))<|ak 7 U (b7 j7 U)<|ak 8 U (dq U)<|ba 9 U<|zr U (zh (.l (.l (.l (.r (.rest _)))))) (add j1 _ (hQB.add (c:=0) nn h1.1) _ _ h1.1 n0.1 (-1)) ?_
  rintro r51 O51 ⟨⟨j2,u2⟩,rfl,rfl,_⟩
  refine z6<|bY<|ye (zb (zc .t4))<|ye (zb (zc .t4))<|ye (zb (zc .t4))<|ye (zb (zc .t4))<|ye (zb (zc .t4))<|yh ?_
  exact ⟨(j2,i18),rfl,⟨_,.refl _,by rw[cG,cG]⟩,trivial⟩
 ·rw[if_neg (show ¬x.op=18 from c18)]
  refine ae<|ai U U<|ab U<|z6<|zu U (fun c24=>?_) (fun c24=>?_)
  ·rw[if_pos (show x.op=24 from c24)]
   refine zd<|zw (fun j=>false) (by kernel_rfl) U (zh (.r (.rest _)))<|ak 0 U (ef U)<|ak 1 U (yb U)<|ak 2 U (zn je U Z8 (by decide) U U)<|ak 3 U (zt (c:=.po _ _) Zg U ⟨_,.head⟩ U)<|ak 4 U (ef U)<|ak 5 U (yb U)<|ak 6 U (zn je U j6 (by decide) U U)<|ak 7 U (zt (c:=.int _ _) j7 U ⟨_,.head⟩ U)<|ak 8 U (dq U)<|ba 9 U<|zr U (zh (.l (.l (.l (.r (.rest _)))))) (add jl Q hQB _ _ nn n0.1 0) ?_
   rintro r63 O63 ⟨⟨j1,u1⟩,rfl,rfl,_⟩
   refine z6<|bY<|y3 (zb (zc .t4))<|y3 (zb (zc .t4))<|y3 (zb (zc .t4))<|y3 (zb (zc .t4))<|y3 (zb (zc .t4))<|zw (fun j=>false) (by kernel_rfl) U (zh (.r (.rest _)))<|ak 0 U (ef U)<|ak 1 U (yb U)<|ak 2 U (zn je U Z8 (by decide) U U)<|ak 3 U (zt (c:=.po _ _) Zg U ⟨_,.head⟩ U)<|ak 4 U (dq U)<|ak 5 U (ef U)<|ak 6 U (yb U)<|ak 7 U (zn je U j6 (by decide) U U)<|ak 8 U (zt (c:=.int _ _) j7 U ⟨_,.head⟩ U)<|ba 9 U<|zr U (zh (.l (.l (.l (.r (.rest _)))))) (add j1 _ (hQB.add (c:=0) nn n0.1) _ _ n0.1 nn 64) ?_
   rintro r73 O73 ⟨⟨j2,u2⟩,rfl,rfl,_⟩
   refine z6<|bY<|ye (zb (zc .t4))<|ye (zb (zc .t4))<|ye (zb (zc .t4))<|ye (zb (zc .t4))<|ye (zb (zc .t4))<|yh ?_
   exact ⟨(j2,i18),rfl,⟨_,.refl _,by rw[cG,cG]⟩,trivial⟩
  ·rw[if_neg (show ¬x.op=24 from c24)]
   refine ae<|ai U U<|ab U<|z6<|zu U (fun c20=>?_) (fun c20=>?_)
   ·rw[if_pos (show x.op=20 from c20)]
    refine ae<|aE U<|aa U<|zr U (zh (.l (.l (.l (.l (.l (.rest _))))))) (hpos i18) ?_
    rintro r78 O78 ⟨rfl,rfl⟩
    refine z6<|zy U (fun cp=>?_) (fun cp=>?_)
    ·rw[if_pos (show eg f K (bc x)=true from hpe▸cp)]
     refine zw (fun j=>false) (by kernel_rfl) U (zh (.r (.rest _)))<|ak 0 U (ef U)<|ak 1 U (yb U)<|ak 2 U (zn je U Z8 (by decide) U U)<|ak 3 U (zt (c:=.po _ _) Zg U ⟨_,.head⟩ U)<|ak 4 U (ef U)<|ak 5 U (yb U)<|ak 6 U (zn je U j6 (by decide) U U)<|ak 7 U (zt (c:=.int _ _) j7 U ⟨_,.head⟩ U)<|ak 8 U (dq U)<|ba 9 U<|zr U (zh (.l (.l (.l (.r (.rest _)))))) (add jl Q hQB _ _ nn n0.1 (-1)) ?_
     rintro r88 O88 ⟨⟨j1,u1⟩,rfl,rfl,_⟩
     refine z6<|bY<|ye (zb (zc .t4))<|ye (zb (zc .t4))<|ye (zb (zc .t4))<|ye (zb (zc .t4))<|ye (zb (zc .t4))<|yh ?_
     exact ⟨(j1,i18),rfl,⟨_,.refl _,by rw[cG]⟩,trivial⟩
    ·rw[if_neg (show ¬eg f K (bc x)=true by rw[←hpe,cp];decide)]
     refine ae<|aE U<|aa U<|zr U (zh (.l (.l (.l (.l (.l (.rest _))))))) (hup i18) ?_
     rintro r92 O92 ⟨rfl,rfl⟩
     refine bR U<|bJ U U<|bZ U U<|ap U<|ab U<|z6<|zd<|ya (γ:=Bool) [0,4] (fun u=>[(99,.bool u)]) (fun u=>[(iw,.cells 75 (lm f t pr js i18 Q.p.length a9 a10)),(js,.cells 136 [.int .i64 ((f.vars.length+1:Nat):Int),.own jl Q.l.length,.own jm M.length]),(jl,.grow 3 180 (Q.l.map bf).flatten),(jm,.grow 1 3 (cI M)),(i18,.grow 2 187 (Q.p.map cD).flatten)]) (fun u=>u=b5 f Q (bc x) (bQ f) 0) ?_ (fun _ _ h=>h) ?_
     ·refine aO<|aj U<|aj U<|zo (s:=96) U (fun c1=>?_) (fun c1=>?_)
      ·refine z8 U U c1<|aa U<|z8 U U c1<|za (qb U U)<|aq U c1 U<|z6 ?_
       exact ⟨_,(by repeat (first|with_reducible exact zp _ _|refine zz rfl ?_)),aH,aD,by unfold b5 gB;unfold bO at *;cases h:dE Q.l (f.vars.length+1) (bc x) (bQ f)<;>simp_all⟩
      ·refine z7 U U c1<|z7 U U c1<|au U c1 U<|z6 ?_
       exact ⟨_,(by repeat (first|with_reducible exact zp _ _|refine zz rfl ?_)),aH,aD,by unfold b5 gB;unfold bO at *;cases h:dE Q.l (f.vars.length+1) (bc x) (bQ f)<;>simp_all⟩
     ·rintro u hu
      refine zy U (fun cu=>?_) (fun cu=>?_)
      ·rw[if_pos (show b5 f K (bc x) (bQ f) 0=true by rw[hfe,←hu];exact cu)]
       refine zw (fun j=>false) (by kernel_rfl) U (zh (.r (.rest _)))<|ak 0 U (ef U)<|ak 1 U (yb U)<|ak 2 U (zn je U Z8 (by decide) U U)<|ak 3 U (zt (c:=.po _ _) Zg U ⟨_,.head⟩ U)<|ak 4 U (dq U)<|ak 5 U (ef U)<|ak 6 U (yb U)<|ak 7 U (zn je U j6 (by decide) U U)<|ak 8 U (zt (c:=.int _ _) j7 U ⟨_,.head⟩ U)<|ba 9 U<|zr U (zh (.l (.l (.l (.r (.rest _)))))) (add jl Q hQB _ _ n0.1 nn (-1)) ?_
       rintro r109 O109 ⟨⟨j1,u1⟩,rfl,rfl,_⟩
       refine z6<|bY<|ye (zb (zc .t4))<|ye (zb (zc .t4))<|ye (zb (zc .t4))<|ye (zb (zc .t4))<|ye (zb (zc .t4))<|yh ?_
       exact ⟨(j1,i18),rfl,⟨_,.refl _,by rw[cG]⟩,trivial⟩
      ·rw[if_neg (show ¬b5 f K (bc x) (bQ f) 0=true by rw[hfe,←hu,cu];decide)]
       refine zg<|yh ?_
       exact ⟨(jl,i18),rfl,⟨_,.refl _,rfl⟩,trivial⟩
   ·rw[if_neg (show ¬x.op=20 from c20)]
    refine zg<|yh ?_
    exact ⟨(jl,i18),rfl,⟨_,.refl _,rfl⟩,trivial⟩
end
end Go.Proofs.YtdilpodccjlkgaaGreatDoor
namespace Go.Proofs.YtdilpodccjlkgaaGreatDoor
open Go.Proofs.Tryz
structure sI (κ:Type) where
 av:κ→List AV
 val:κ→Array Value
 one:∀{I:G} {k:κ} {v:Value},bq I (.agg (av k)) v→v=.agg (val k)
 bits:∀k,Instr.sameBits 10000 (.agg (val k)) (.agg (val k))=true
section
variable {κ:Type} [DecidableEq κ] (c:sI κ)
structure ik (P:Program) (kt:TypeId):Prop where
 und:∃fs,P.underlying kt=some (.struct fs)
 chk:∀e k w,(Instr.checkKey e 10000 kt (.agg (c.val k))).run P w=.ok () w
 eq:∀k k' w,(Op.equal kt (.agg (c.val k)) (.agg (c.val k'))).run P w=.ok (decide (k=k')) w
def fm (k:κ):List (κ × Int)→Nat→Option (Nat × Int)
 |[],_=>none
 |(k',v)::es,i=>if k=k' then some (i,v) else fm k es (i+1)
def be (es:List (κ × Int)) (k:κ):Option Int:=(fm k es 0).map (·.2)
def bW (es:List (κ × Int)) (k:κ) (v:Int):List (κ × Int):=match fm k es 0 with
 |some (j,_)=>es.set j (k,v)
 |none=>es++[(k,v)]
theorem pp (k:κ):∀(es:List (κ × Int)) (i:Nat),fm k es i=(fm k es 0).map fun q=>(q.1+i,q.2)
 |[],_=>rfl
 |(k',v)::es,i=>by
  unfold fm
  split
  ·simp
  ·rw[pp k es (i+1),pp k es (0+1),Option.map_map]
   congr 1
   funext q
   simp only[Function.comp,Prod.mk.injEq,and_true];omega
theorem pq {k:κ}:∀{es:List (κ × Int)} {i:Nat},fm k es i=none↔k ∉ es.map (·.1)
 |[],_=>by simp[fm]
 |(k',v)::es,i=>by
  unfold fm
  split
  ·rename_i h;simp[h]
  ·rename_i h;rw[pq (es:=es)];simp[h]
theorem f7 {k:κ}:∀{es:List (κ × Int)} {j:Nat} {v:Int},fm k es 0=some (j,v)→es[j]?=some (k,v)∧k ∉ (es.take j).map (·.1)
 |[],_,_,h=>by simp[fm] at h
 |(k',u)::es,j,v,h=>by
  unfold fm at h
  split at h
  ·rename_i e
   simp only[Option.some.injEq,Prod.mk.injEq] at h
   obtain ⟨rfl,rfl⟩:=h
   subst e
   exact ⟨rfl,by simp⟩
  ·rename_i e
   rw[pp] at h
   cases hq:fm k es 0 with
   |none=>rw[hq] at h;cases h
   |some q=>
    rw[hq] at h
    simp only[Option.map_some,Option.some.injEq,Prod.mk.injEq] at h
    obtain ⟨rfl,rfl⟩:=h
    obtain ⟨h1,h2⟩:=f7 (es:=es) (j:=q.1) (v:=q.2) hq
    refine ⟨by simpa using h1,?_⟩
    rw[show q.1+(0+1)=q.1+1 by omega]
    simp[e]
    simpa using h2
theorem lP (k':κ) (v:Int) (es:List (κ × Int)) (k:κ):be ((k',v)::es) k=if k=k' then some v else be es k:=by
 unfold be
 rw[fm]
 split
 ·rfl
 ·rw[pp,Option.map_map];rfl
theorem mr:∀(es fs:List (κ × Int)) (k:κ),be (es++fs) k=(be es k).or (be fs k)
 |[],fs,k=>by simp[be,fm]
 |(k',v)::es,fs,k=>by
  rw[List.cons_append,lP,lP,mr es fs k]
  split<;>simp
theorem pt {es:List (κ × Int)} {k:κ}:be es k=none↔k ∉ es.map (·.1):=by
 unfold be;rw[Option.map_eq_none_iff];exact pq
theorem gy {es:List (κ × Int)} {k:κ} (h:be es k=none) (v:Int):bW es k v=es++[(k,v)]:=by
 have:fm k es 0=none:=pq.2 (pt.1 h)
 unfold bW;rw[this]
theorem pu {es:List (κ × Int)} {k:κ} (h:be es k=none) (v:Int) (k':κ):be (bW es k v) k'=if k'=k then some v else be es k':=by
 rw[gy h,mr,lP]
 split
 ·rename_i e;rw[e,h];rfl
 ·show (be es k').or (be [] k')=_
  cases be es k'<;>rfl
def eX (e:κ × Int):Value × Value:=(.agg (c.val e.1),.int .i64 e.2)
def jU (b:Nat) (es:List (κ × Int)):bS:=.heap fun L=>∃arr clock,L=[(b,.map arr clock)]∧fY arr=es.map (eX c)
variable {c}
section
variable {P:Program} {kt:TypeId} {w:World}
theorem nm (h:ik c P kt) (k:κ):∀(l:List MapEntry) (es:List (κ × Int)) (i:Nat),l.map (fun e=>(e.key,e.val))=es.map (eX c) →
  (Instr.findAsking kt (.agg (c.val k)) l i).run P w=.ok ((fm k es i).map fun q=>(q.1,.int .i64 q.2)) w
 |[],[],_,_=>rfl
 |[],_::_,_,e=>by cases e
 |_::_,[],_,e=>by cases e
 |x::l,(k',v)::es,i,e=>by
  simp only[List.map_cons,List.cons.injEq,eX,Prod.mk.injEq] at e
  obtain ⟨⟨e1,e2⟩,e3⟩:=e
  unfold Instr.findAsking
  rw[Sem.run_bind,e1,h.eq k k' w]
  simp only[Result.andThen]
  unfold fm
  by_cases hk:k=k'
  ·rw[qx hk,if_pos hk,e2];rfl
  ·rw[qy hk,if_neg hk];exact nm h k l es (i+1) e3
theorem k6 (h:ik c P kt) (k:κ) (l:List MapEntry) (es:List (κ × Int)) (e:l.map (fun e=>(e.key,e.val))=es.map (eX c)) :
  (Instr.findKey kt (.agg (c.val k)) l).run P w=.ok ((fm k es 0).map fun q=>(q.1,.int .i64 q.2)) w:=by
 obtain ⟨fs,hu⟩:=h.und
 unfold Instr.findKey
 rw[Sem.run_bind,run_underlying hu]
 simp only[Result.andThen]
 cases l with
 |nil=>
  cases es with
  |nil=>rfl
  |cons _ _=>cases e
 |cons x l=>
  cases es with
  |nil=>cases e
  |cons y es=>
   have hx:x.key=(.agg (c.val y.1):Value):=by simp only[List.map_cons,List.cons.injEq,eX,Prod.mk.injEq] at e;exact e.1.1
   have:Instr.findNow (.struct fs) (.agg (c.val k)) (x::l) 0=none:=by unfold Instr.findNow;rw[hx];rfl
   rw[this]
   exact nm h k (x::l) (y::es) 0 e
omit [DecidableEq κ] in
theorem BU (k:κ):(Instr.keyThatStays (Value.agg (c.val k)) (Value.agg (c.val k))).run P w=.ok (.agg (c.val k)) w:=by
 have:Instr.sameBits 10000 (Value.agg (c.val k)) (Value.agg (c.val k))=true:=c.bits k
 unfold Instr.keyThatStays
 rw[if_pos this];rfl
end
section
variable {E:World} {P:Program} {ops:Array Oper} {K:aS→OL→Prop} {env:aS} {O O' O'':OL} {rest:List Oper} {n:Nat}
variable {d ty:Nat} {pos:String} {af:Array Edge} {x y z:Operand} {t u e T kt:TypeId} {b:Nat}
omit [DecidableEq κ] in
theorem az.makeMapS (k:∀b,az P E ops K rest (br env d (dw b)) ((0,jU c b [])::O)):az P E ops K (Oper.mk (some d) (.makeMap t none) ty pos af none::rest) env O:=fun I F ρ w h1 ⟨ht,L,hL,hS⟩=>by
 refine qf U ?_
 unfold iN
 have:(execOp (Go.Proofs.YtdilpodccjlkgaaGreatDoor.ev ρ) (Oper.mk (some d) (.makeMap t none) ty pos af none)).run P w=.ok (.value (.map (some w.heap.size))) (w.alloc (.map #[] 0)):=by
  simp only[execOp,Option.map_none]
  rw[Sem.run_bind,run_makeMap_plain];rfl
 rw[this]
 exact k w.heap.size I F _ _ (h1.upd d rfl) ⟨ht,(w.heap.size,.map #[] 0)::L,⟨[_],L,rfl,⟨#[],0,rfl,rfl⟩,hL⟩,hS.alloc _⟩
theorem Gv.lookup1SK {k:κ} {m:Nat} {es:List (κ × Int)} (hk:ik c P kt) (ht:P.underlying t=some (.map kt u)) (hz:∀w,(zeroValue u).run P w=.ok (.int .i64 0) w) (hx:aV env x=dw b) (hy:aV env y=.agg (c.av k))
  (hO:nN O m (jU c b es)):Gv P env O (Oper.mk (some d) (.lookup t x y false) ty pos af none) (.int .i64 ((be es k).getD 0)):=fun I L E ρ h1 hL=>by
 obtain ⟨O',hO⟩:=hO
 obtain ⟨A,B,hp,⟨arr,clock,rfl,hM⟩,_⟩:=hO.rep hL
 have hin0:(b,Obj.map arr clock)∈L:=hp.mem_iff.2 (by simp)
 have hx:=fd h1 hx
 have hy2:=h1.ev y
 rw[hy] at hy2
 have hy:=c.one hy2
 refine ⟨.int .i64 ((be es k).getD 0),U,fun w J L' hl hS hin=>?_⟩
 have hb:w.heap[b]?=some (Obj.map arr clock):=by
  have:=hS.own _ (hin _ hin0);simpa using this
 have hc:=hk.chk arr.isEmpty k w
 have hf:=k6 (w:=w) hk k arr.toList es hM
 have hfin:(be es k)=(fm k es 0).map (·.2):=rfl
 cases hq:fm k es 0 with
 |none=>
  rw[hq] at hf hfin
  rw[hfin]
  simp[execOp,Instr.lookup,run_underlying ht,hx,hy,MapKept.run_getObj_map hb,hc,hf,hz,Result.andThen]
 |some q=>
  rw[hq] at hf hfin
  rw[hfin]
  simp[execOp,Instr.lookup,run_underlying ht,hx,hy,MapKept.run_getObj_map hb,hc,hf,Result.andThen]
omit [DecidableEq κ] in
theorem sJ {arr:Array MapEntry} {es:List (κ × Int)} {j:Nat} {k:κ} {v:Int} (h:fY arr=es.map (eX c)) (hj:j<es.length):fY (arr.modify j fun e=>{ e with key:=.agg (c.val k),val:=.int .i64 v })=(es.set j (k,v)).map (eX c):=by
 unfold fY at h ⊢
 have hl:arr.toList.length=es.length:=by have:=congrArg List.length h;simpa using this
 refine List.ext_getElem? fun q=>?_
 rw[qs,qs,Array.getElem?_toList,Array.getElem?_modify]
 by_cases hq:j=q
 ·subst hq
  rw[if_pos rfl,List.getElem?_set_self hj]
  obtain ⟨e,he⟩:∃e,arr[j]?=some e:=⟨_,Array.getElem?_eq_getElem (by rw[←Array.length_toList];omega)⟩
  rw[he];rfl
 ·rw[if_neg hq,List.getElem?_set_ne hq]
  have:=congrArg (fun l=>l[q]?) h
  simpa [qs] using this
theorem az.mapSetS {k:κ} {m:Nat} {v:Int} {es:List (κ × Int)} (hk:ik c P kt) (ht:P.underlying t=some (.map kt u)) (hx:aV env x=dw b) (hy:aV env y=.agg (c.av k)) (hz:aV env z=.int .i64 v) (hO:fD O m (jU c b es) (jU c b (bW es k v)) O')
  (kk:az P E ops K rest env O'):az P E ops K (Oper.mk none (.mapUpdate t x y z) ty pos af none::rest) env O:=fun I F ρ w h1 ⟨htop,L,hL,hS⟩=>by
 have hx:=fd h1 hx
 have hy2:=h1.ev y
 rw[hy] at hy2
 have hy2:=c.one hy2
 have hz:=fB h1 hz
 obtain ⟨A,B,hp,⟨arr,clock,rfl,he⟩,hback⟩:=hO.rep hL
 have hS2:SL I.k ((b,.map arr clock)::(B++F)) E w:=hS.perm ((hp.append_right F).symm)
 have hb:=hS2.own _ (.head _)
 simp only at hb
 have hc:=hk.chk false k w
 have hf:=k6 (w:=w) hk k arr.toList es he
 have fin:∀(arr':Array MapEntry) (clock':Nat),fY arr'=(bW es k v).map (eX c) →
   (execOp (Go.Proofs.YtdilpodccjlkgaaGreatDoor.ev ρ) (Oper.mk none (.mapUpdate t x y z) ty pos af none)).run P w=.ok .skip { w with heap:=w.heap.setIfInBounds b (.map arr' clock') }→cA P ops (iv I F E K) (Oper.mk none (.mapUpdate t x y z) ty pos af none::rest) ρ w:=fun arr' clock' he' hrun=>by
  refine qf U ?_
  unfold iN
  rw[hrun]
  obtain ⟨L',h7,h8⟩:=hback (qd I) (A':=[(b,.map arr' clock')]) ⟨arr',clock',rfl,he'⟩
  have hh:=MapKept.heap_set (o':=.map arr' clock') hb
  have hS3:SL I.k ((b,.map arr' clock')::(B++F)) E { w with heap:=w.heap.setIfInBounds b (.map arr' clock') }:=hS2.turn rfl rfl rfl hh.1 hh.2
  exact kk I F ρ _ h1 ⟨htop,L',h7,hS3.perm (h8.append_right F)⟩
 cases hq:fm k es 0 with
 |none=>
  rw[hq] at hf
  refine fin (arr.push { key:=.agg (c.val k),val:=.int .i64 v,born:=clock }) (clock+1) ?_ ?_
  ·unfold bW fY at *
   rw[hq]
   simp only[Array.toList_push,qv,he];rfl
  ·simp[execOp,hx,hy2,hz,Instr.mapUpdate,run_underlying ht,MapKept.run_getObj_map hb,hc,hf,MapKept.run_setObj_map _ hb,Result.andThen]
 |some q=>
  obtain ⟨j,u0⟩:=q
  rw[hq] at hf
  obtain ⟨g1,_⟩:=f7 hq
  have hj:=(List.getElem?_eq_some_iff.1 g1).1
  have hl:arr.toList.length=es.length:=by have:=congrArg List.length he;unfold fY at this;simpa using this
  obtain ⟨e0,he0⟩:∃e,arr[j]?=some e:=⟨_,Array.getElem?_eq_getElem (by rw[←Array.length_toList];omega)⟩
  have hek:e0.key=.agg (c.val k):=by
   have:=congrArg (fun l=>l[j]?) he
   unfold fY at this
   simp only[qs,Array.getElem?_toList,he0,g1,Option.map_some,Option.some.injEq,eX,Prod.mk.injEq] at this
   exact this.1
  refine fin (arr.modify j fun e=>{ e with key:=.agg (c.val k),val:=.int .i64 v }) clock ?_ ?_
  ·unfold bW;rw[hq];exact sJ he hj
  ·simp[execOp,hx,hy2,hz,Instr.mapUpdate,run_underlying ht,MapKept.run_getObj_map hb,hc,hf,MapKept.run_setObj_map _ hb,Result.andThen,he0,hek,BU]
end
end
end Go.Proofs.YtdilpodccjlkgaaGreatDoor
namespace Go.Proofs.YtdilpodccjlkgaaGreatDoor
open Go.Proofs.Tryz
section
variable {κ:Type} [DecidableEq κ] (c:sI κ)
def px (arr:Array MapEntry) (clock:Nat):Prop:=(∀x∈arr.toList,x.born<clock)∧(arr.toList.map (·.born)).Nodup
def ln (b:Nat) (es:List (κ × Int)):bS:=.heap fun L=>∃arr clock,L=[(b,.map arr clock)]∧fY arr=es.map (eX c)∧px arr clock
def xt (b:Nat) (es:List (κ × Int)) (k:κ) (s:Nat):bS:=.heap fun L=>∃arr clock,L=[(b,.map arr clock)]∧fY arr=es.map (eX c)∧px arr clock∧∃i v,fm k es 0=some (i,v)∧arr.findIdx? (fun e=>(e.born:Int) == (s:Int))=some i
variable {c}
theorem k7 {es:List (κ × Int)} {k:κ} {u v:Int}:bW (bW es k u) k v=bW es k v:=by
 have h0:∀(es:List (κ × Int)) (i j:Nat) (w:Int),fm k es i=some (j,w)→∀u,fm k (es.set (j - i) (k,u)) i=some (j,u)∧i≤j:=fun es=>by
  induction es with
  |nil=>intro i j w h;cases h
  |cons x es ih=>
   intro i j w h u
   obtain ⟨k',w'⟩:=x
   unfold fm at h
   split at h
   ·cases h
    rw[Nat.sub_self,List.set_cons_zero]
    unfold fm
    rw[if_pos rfl]
    exact ⟨rfl,Nat.le_refl _⟩
   ·rename_i hne
    obtain ⟨h1,h2⟩:=ih _ _ _ h u
    have e:j - i=(j - (i+1))+1:=by omega
    rw[e,List.set_cons_succ]
    unfold fm
    rw[if_neg hne]
    exact ⟨h1,by omega⟩
 cases hq:fm k es 0 with
 |none=>
  have hn:be es k=none:=by unfold be;rw[hq];rfl
  have h1:bW es k u=es++[(k,u)]:=gy hn u
  rw[h1,gy hn v]
  have h2:∀(es:List (κ × Int)) (i:Nat),fm k es i=none→fm k (es++[(k,u)]) i=some (i+es.length,u):=fun es=>by
   induction es with
   |nil=>intro i _;simp[fm]
   |cons x es ih=>
    intro i h
    obtain ⟨k',w'⟩:=x
    unfold fm at h
    split at h
    ·cases h
    ·rename_i hne
     rw[List.cons_append]
     unfold fm
     rw[if_neg hne,ih _ h,List.length_cons]
     congr 2;omega
  unfold bW
  rw[h2 es 0 hq,Nat.zero_add]
  simp
 |some q=>
  obtain ⟨j,w⟩:=q
  have h1:bW es k u=es.set j (k,u):=by unfold bW;rw[hq]
  have h2:bW es k v=es.set j (k,v):=by unfold bW;rw[hq]
  have h3:=(h0 es 0 j w hq u).1
  rw[h1,h2]
  unfold bW
  rw[Nat.sub_zero] at h3
  rw[h3]
  simp
theorem wh {es:List (κ × Int)} {k:κ} (u:Int):∃j,fm k (bW es k u) 0=some (j,u)∧((fm k es 0=none∧j=es.length)∨∃w,fm k es 0=some (j,w)):=by
 cases hq:fm k es 0 with
 |none=>
  have hn:be es k=none:=by unfold be;rw[hq];rfl
  rw[gy hn u]
  have h2:∀(es:List (κ × Int)) (i:Nat),fm k es i=none→fm k (es++[(k,u)]) i=some (i+es.length,u):=fun es=>by
   induction es with
   |nil=>intro i _;simp[fm]
   |cons x es ih=>
    intro i h
    obtain ⟨k',w'⟩:=x
    unfold fm at h
    split at h
    ·cases h
    ·rename_i hne
     rw[List.cons_append]
     unfold fm
     rw[if_neg hne,ih _ h,List.length_cons]
     congr 2;omega
  exact ⟨es.length,by rw[h2 es 0 hq,Nat.zero_add],.inl ⟨rfl,rfl⟩⟩
 |some q=>
  obtain ⟨j,w⟩:=q
  obtain ⟨g1,g2⟩:=f7 hq
  have h1:bW es k u=es.set j (k,u):=by unfold bW;rw[hq]
  refine ⟨j,?_,.inr ⟨w,U⟩⟩
  rw[h1]
  have h3:∀(es:List (κ × Int)) (i j:Nat) (w:Int),fm k es i=some (i+j,w)→fm k (es.set j (k,u)) i=some (i+j,u):=fun es=>by
   induction es with
   |nil=>intro i j w h;cases h
   |cons x es ih=>
    intro i j w h
    obtain ⟨k',w'⟩:=x
    unfold fm at h
    split at h
    ·have e:j=0:=by
      have:=congrArg (fun o=>(o.getD (0,0)).1) h
      simp at this;omega
     subst e
     rw[List.set_cons_zero]
     unfold fm
     rw[if_pos rfl];rfl
    ·rename_i hne
     cases j with
     |zero=>
      rw[pp] at h
      cases h5:fm k es 0 with
      |none=>rw[h5] at h;cases h
      |some q=>rw[h5] at h;simp at h;omega
     |succ j=>
      rw[show i+(j+1)=(i+1)+j by omega] at h ⊢
      rw[List.set_cons_succ]
      unfold fm
      rw[if_neg hne]
      exact ih _ _ _ h
  have:=h3 es 0 j w (by rw[Nat.zero_add];exact hq)
  rwa [Nat.zero_add] at this
section
variable {E:World} {P:Program} {ops:Array Oper} {K:aS→OL→Prop} {env:aS} {O O':OL} {rest:List Oper} {n:Nat}
variable {d ty:Nat} {pos:String} {af:Array Edge} {x y z:Operand} {t u e T kt:TypeId} {b:Nat}
omit [DecidableEq κ] in
theorem az.makeMapT (k:∀b,az P E ops K rest (br env d (dw b)) ((0,ln c b [])::O)):az P E ops K (Oper.mk (some d) (.makeMap t none) ty pos af none::rest) env O:=fun I F ρ w h1 ⟨ht,L,hL,hS⟩=>by
 refine qf U ?_
 unfold iN
 have:(execOp (Go.Proofs.YtdilpodccjlkgaaGreatDoor.ev ρ) (Oper.mk (some d) (.makeMap t none) ty pos af none)).run P w=.ok (.value (.map (some w.heap.size))) (w.alloc (.map #[] 0)):=by
  simp only[execOp,Option.map_none]
  rw[Sem.run_bind,run_makeMap_plain];rfl
 rw[this]
 exact k w.heap.size I F _ _ (h1.upd d rfl) ⟨ht,(w.heap.size,.map #[] 0)::L,⟨[_],L,rfl,⟨#[],0,rfl,rfl,fun x hx=>(by cases hx),List.nodup_nil⟩,hL⟩,hS.alloc _⟩
theorem Gv.lookup1SG {o:bS} {k:κ} {m:Nat} {es:List (κ × Int)} (ho:∀(I:G) A,lW I (m,o) A→∃arr clock,A=[(b,.map arr clock)]∧fY arr=es.map (eX c)) (hk:ik c P kt) (ht:P.underlying t=some (.map kt u)) (hz:∀w,(zeroValue u).run P w=.ok (.int .i64 0) w) (hx:aV env x=dw b) (hy:aV env y=.agg (c.av k))
  (hO:nN O m o):Gv P env O (Oper.mk (some d) (.lookup t x y false) ty pos af none) (.int .i64 ((be es k).getD 0)):=fun I L E ρ h1 hL=>by
 obtain ⟨O',hO⟩:=hO
 obtain ⟨A,B,hp,hA,_⟩:=hO.rep hL
 obtain ⟨arr,clock,rfl,hM⟩:=ho _ _ hA
 have hin0:(b,Obj.map arr clock)∈L:=hp.mem_iff.2 (by simp)
 have hx:=fd h1 hx
 have hy2:=h1.ev y
 rw[hy] at hy2
 have hy:=c.one hy2
 refine ⟨.int .i64 ((be es k).getD 0),U,fun w J L' hl hS hin=>?_⟩
 have hb:w.heap[b]?=some (Obj.map arr clock):=by
  have:=hS.own _ (hin _ hin0);simpa using this
 have hc:=hk.chk arr.isEmpty k w
 have hf:=k6 (w:=w) hk k arr.toList es hM
 have hfin:(be es k)=(fm k es 0).map (·.2):=rfl
 cases hq:fm k es 0 with
 |none=>
  rw[hq] at hf hfin
  rw[hfin]
  simp[execOp,Instr.lookup,run_underlying ht,hx,hy,MapKept.run_getObj_map hb,hc,hf,hz,Result.andThen]
 |some q=>
  rw[hq] at hf hfin
  rw[hfin]
  simp[execOp,Instr.lookup,run_underlying ht,hx,hy,MapKept.run_getObj_map hb,hc,hf,Result.andThen]
theorem Gv.lookup1ST {k:κ} {m:Nat} {es:List (κ × Int)} (hk:ik c P kt) (ht:P.underlying t=some (.map kt u)) (hz:∀w,(zeroValue u).run P w=.ok (.int .i64 0) w) (hx:aV env x=dw b) (hy:aV env y=.agg (c.av k))
  (hO:nN O m (ln c b es)):Gv P env O (Oper.mk (some d) (.lookup t x y false) ty pos af none) (.int .i64 ((be es k).getD 0)):=
 Gv.lookup1SG (fun I A (h:lW I (m,ln c b es) A)=>by
  obtain ⟨arr,clock,h1,h2,_⟩:=h
  exact ⟨arr,clock,h1,h2⟩) hk ht hz hx hy hO
theorem zW {es:List (κ × Int)} {k:κ}:(be (bW es k ((be es k).getD 0)) k).getD 0=(be es k).getD 0:=by
 obtain ⟨j,h,_⟩:=wh (es:=es) (k:=k) ((be es k).getD 0)
 rw[show be (bW es k ((be es k).getD 0)) k=some ((be es k).getD 0) by unfold be at h ⊢;rw[h];rfl];rfl
theorem Gv.lookup1SE {k:κ} {m s:Nat} {es:List (κ × Int)} (hk:ik c P kt) (ht:P.underlying t=some (.map kt u)) (hz:∀w,(zeroValue u).run P w=.ok (.int .i64 0) w) (hx:aV env x=dw b) (hy:aV env y=.agg (c.av k))
  (hO:nN O m (xt c b (bW es k ((be es k).getD 0)) k s)):Gv P env O (Oper.mk (some d) (.lookup t x y false) ty pos af none) (.int .i64 ((be es k).getD 0)):=by
 have h:=Gv.lookup1SG (P:=P) (env:=env) (O:=O) (d:=d) (ty:=ty) (pos:=pos) (af:=af) (es:=bW es k ((be es k).getD 0)) (k:=k) (fun I A (h:lW I (m,xt c b (bW es k ((be es k).getD 0)) k s) A)=>by
  obtain ⟨arr,clock,h1,h2,_⟩:=h
  exact ⟨arr,clock,h1,h2⟩) hk ht hz hx hy hO
 rw[zW] at h
 exact h
theorem uF (a:Array MapEntry) (p:MapEntry→Bool):a.findIdx? p=a.toList.findIdx? p:=by cases a;simp
theorem py {l:List MapEntry} (hn:(l.map (·.born)).Nodup) {j:Nat} {x:MapEntry} (h:l[j]?=some x):l.findIdx? (fun e=>(e.born:Int) == (x.born:Int))=some j:=by
 rw[List.findIdx?_eq_some_iff_getElem]
 obtain ⟨hj,e⟩:=List.getElem?_eq_some_iff.1 h
 refine ⟨hj,by simp[e],fun i hi=>?_⟩
 simp only[Bool.not_eq_true,beq_eq_false_iff_ne,ne_eq]
 intro he
 have he:(l[i]'(by omega)).born=x.born:=by exact_mod_cast he
 rw[List.nodup_iff_pairwise_ne] at hn
 have h5:=List.pairwise_iff_getElem.1 hn i j (by rw[qr];omega) (by rw[qr];omega) hi
 rw[List.getElem_map,List.getElem_map,e] at h5
 exact h5 he
omit [DecidableEq κ] in
theorem zX {arr:Array MapEntry} {es:List (κ × Int)} {j:Nat} {k:κ} {v:Int} (h:fY arr=es.map (eX c)) (hj:es[j]?=some (k,v)):fY (arr.modify j fun e=>{ e with key:=.agg (c.val k) })=es.map (eX c):=by
 unfold fY at h ⊢
 refine List.ext_getElem? fun q=>?_
 have h2:=congrArg (fun l=>l[q]?) h
 simp only[qs,Array.getElem?_toList] at h2
 rw[qs,qs,Array.getElem?_toList,Array.getElem?_modify,←h2]
 by_cases hq:j=q
 ·subst hq
  rw[if_pos rfl]
  rw[hj] at h2
  cases he:arr[j]? with
  |none=>rfl
  |some e0=>
   rw[he] at h2
   simp only[Option.map_some,Option.some.injEq,eX,Prod.mk.injEq] at h2
   simp[h2.1]
 ·rw[if_neg hq]
omit [DecidableEq κ] in
theorem zY {arr:Array MapEntry} {es:List (κ × Int)} {j:Nat} {k:κ} {v u0:Int} (h:fY arr=es.map (eX c)) (hj:es[j]?=some (k,u0)):fY (arr.modify j fun e=>{ e with val:=.int .i64 v })=(es.set j (k,v)).map (eX c):=by
 unfold fY at h ⊢
 refine List.ext_getElem? fun q=>?_
 have h2:=congrArg (fun l=>l[q]?) h
 simp only[qs,Array.getElem?_toList] at h2
 rw[qs,qs,Array.getElem?_toList,Array.getElem?_modify]
 by_cases hq:j=q
 ·subst hq
  rw[if_pos rfl,List.getElem?_set_self (List.getElem?_eq_some_iff.1 hj).1]
  rw[hj] at h2
  cases he:arr[j]? with
  |none=>rw[he] at h2;cases h2
  |some e0=>
   rw[he] at h2
   simp only[Option.map_some,Option.some.injEq,eX,Prod.mk.injEq] at h2
   simp[eX,h2.1]
 ·rw[if_neg hq,List.getElem?_set_ne hq,←h2]
omit [DecidableEq κ] in
theorem nq {arr:Array MapEntry} {clock i:Nat} {g:MapEntry→MapEntry} (h:px arr clock) (hg:∀e,(g e).born=e.born):px (arr.modify i g) clock∧(arr.modify i g).toList.map (·.born)=arr.toList.map (·.born):=by
 have e:(arr.modify i g).toList.map (·.born)=arr.toList.map (·.born):=by
  refine List.ext_getElem? fun q=>?_
  rw[qs,qs,Array.getElem?_toList,Array.getElem?_toList,Array.getElem?_modify]
  split
  ·cases arr[q]? with
   |none=>rfl
   |some e0=>simp[hg]
  ·rfl
 refine ⟨⟨fun x hx=>?_,by rw[e];exact h.2⟩,e⟩
 have h1:x.born∈arr.toList.map (·.born):=by rw[←e];exact List.mem_map.2 ⟨x,hx,rfl⟩
 obtain ⟨y,hy,hyx⟩:=List.mem_map.1 h1
 rw[←hyx];exact h.1 y hy
theorem az.mapEntryS {k:κ} {m:Nat} {es:List (κ × Int)} {O':Nat→OL} (hk:ik c P kt) (ht:P.underlying t=some (.map kt u)) (hz:∀w,(zeroValue u).run P w=.ok (.int .i64 0) w) (hx:aV env x=dw b) (hy:aV env y=.agg (c.av k))
  (hO:∀s:Nat,fD O m (ln c b es) (xt c b (bW es k ((be es k).getD 0)) k s) (O' s))
  (kk:∀s:Nat,az P E ops K rest (br env d (.tup [.int .i64 ((be es k).getD 0),.int .i64 (s:Int)])) (O' s)):az P E ops K (Oper.mk (some d) (.mapEntry t x y) ty pos af none::rest) env O:=fun I F ρ w h1 ⟨htop,L,hL,hS⟩=>by
 have hx:=fd h1 hx
 have hy2:=h1.ev y
 rw[hy] at hy2
 have hy2:=c.one hy2
 obtain ⟨A0,B0,hp0,⟨arr,clock,rfl,he,hB⟩,_⟩:=(hO 0).rep hL
 have hS2:SL I.k ((b,.map arr clock)::(B0++F)) E w:=hS.perm ((hp0.append_right F).symm)
 have hb:=hS2.own _ (.head _)
 simp only at hb
 have hc:=hk.chk false k w
 have hf:=k6 (w:=w) hk k arr.toList es he
 have fin:∀(arr':Array MapEntry) (clock' s:Nat),fY arr'=(bW es k ((be es k).getD 0)).map (eX c)→px arr' clock'→(∃i v,fm k (bW es k ((be es k).getD 0)) 0=some (i,v)∧arr'.findIdx? (fun e=>(e.born:Int) == (s:Int))=some i) →
   (execOp (Go.Proofs.YtdilpodccjlkgaaGreatDoor.ev ρ) (Oper.mk (some d) (.mapEntry t x y) ty pos af none)).run P w=.ok (.value (.tuple #[.int .i64 ((be es k).getD 0),.int .i64 (s:Int)])) { w with heap:=w.heap.setIfInBounds b (.map arr' clock') }→cA P ops (iv I F E K) (Oper.mk (some d) (.mapEntry t x y) ty pos af none::rest) ρ w:=fun arr' clock' s he' hB' hfi hrun=>by
  refine qf U ?_
  unfold iN
  rw[hrun]
  obtain ⟨A,B,hp,⟨arr2,clock2,rfl,_,_⟩,hback⟩:=(hO s).rep hL
  have hS1:SL I.k ((b,.map arr2 clock2)::(B++F)) E w:=hS.perm ((hp.append_right F).symm)
  have hb1:=hS1.own _ (.head _)
  simp only at hb1
  rw[hb] at hb1
  cases hb1
  obtain ⟨L',h7,h8⟩:=hback (qd I) (A':=[(b,.map arr' clock')]) ⟨arr',clock',rfl,he',hB',hfi⟩
  have hh:=MapKept.heap_set (o':=.map arr' clock') hb
  have hS3:SL I.k ((b,.map arr' clock')::(B++F)) E { w with heap:=w.heap.setIfInBounds b (.map arr' clock') }:=hS1.turn rfl rfl rfl hh.1 hh.2
  exact kk s I F _ _ (h1.upd d ⟨[_,_],rfl,_,_,rfl,rfl,_,_,rfl,rfl,rfl⟩) ⟨htop,L',h7,hS3.perm (h8.append_right F)⟩
 cases hq:fm k es 0 with
 |none=>
  rw[hq] at hf
  have hg:be es k=none:=by unfold be;rw[hq];rfl
  have hl:arr.toList.length=es.length:=by have:=congrArg List.length he;unfold fY at this;simpa using this
  refine fin (arr.push { key:=.agg (c.val k),val:=.int .i64 0,born:=clock }) (clock+1) clock ?_ ?_ ?_ ?_
  ·rw[gy hg,hg]
   unfold fY at *
   simp only[Array.toList_push,qv,he];rfl
  ·refine ⟨fun x hx=>?_,?_⟩
   ·rw[Array.toList_push] at hx
    rcases List.mem_append.1 hx with hx|hx
    ·have:=hB.1 x hx;omega
    ·rw[List.mem_singleton.1 hx];exact Nat.lt_succ_self _
   ·rw[Array.toList_push,qv,List.nodup_append]
    refine ⟨hB.2,by simp,fun a ha q hq' e=>?_⟩
    obtain ⟨z,hz1,rfl⟩:=List.mem_map.1 ha
    simp at hq'
    have:=hB.1 z hz1
    omega
  ·obtain ⟨j,h5,h6⟩:=wh (es:=es) (k:=k) ((be es k).getD 0)
   refine ⟨j,_,h5,?_⟩
   have hj:j=es.length:=by
    rcases h6 with h6|⟨w0,h6⟩
    ·exact h6.2
    ·rw[hq] at h6;cases h6
   rw[uF,Array.toList_push,hj,←hl]
   have:=py (l:=arr.toList++[{ key:=.agg (c.val k),val:=.int .i64 0,born:=clock }]) (j:=arr.toList.length) (x:={ key:=.agg (c.val k),val:=.int .i64 0,born:=clock }) (by
    rw[qv,List.nodup_append]
    refine ⟨hB.2,by simp,fun a ha q hq' e=>?_⟩
    obtain ⟨z,hz1,rfl⟩:=List.mem_map.1 ha
    simp at hq'
    have:=hB.1 z hz1
    omega) (by simp)
   exact this
  ·rw[hg]
   simp[execOp,hx,hy2,Instr.mapEntry,run_underlying ht,MapKept.run_getObj_map hb,hc,hf,hz,MapKept.run_setObj_map _ hb,Result.andThen,goInt]
 |some q=>
  obtain ⟨j,u0⟩:=q
  rw[hq] at hf
  have hg:be es k=some u0:=by unfold be;rw[hq];rfl
  obtain ⟨g1,_⟩:=f7 hq
  have hj:=(List.getElem?_eq_some_iff.1 g1).1
  have hl:arr.toList.length=es.length:=by have:=congrArg List.length he;unfold fY at this;simpa using this
  obtain ⟨e0,he0⟩:∃e,arr[j]?=some e:=⟨_,Array.getElem?_eq_getElem (by rw[←Array.length_toList];omega)⟩
  have hek:e0.key=.agg (c.val k):=by
   have:=congrArg (fun l=>l[j]?) he
   unfold fY at this
   simp only[qs,Array.getElem?_toList,he0,g1,Option.map_some,Option.some.injEq,eX,Prod.mk.injEq] at this
   exact this.1
  have hsame:bW es k ((be es k).getD 0)=es:=by
   unfold bW;rw[hq,hg]
   refine List.ext_getElem? fun q=>?_
   by_cases e:j=q
   ·subst e;rw[List.getElem?_set_self hj,g1];rfl
   ·rw[List.getElem?_set_ne e]
  have hbm:=nq (i:=j) (g:=fun e=>{ e with key:=.agg (c.val k) }) hB (fun _=>rfl)
  refine fin (arr.modify j fun e=>{ e with key:=.agg (c.val k) }) clock e0.born ?_ hbm.1 ?_ ?_
  ·rw[hsame];exact zX he g1
  ·rw[hsame]
   refine ⟨j,u0,hq,?_⟩
   rw[uF]
   refine py (x:={ e0 with key:=.agg (c.val k) }) hbm.1.2 ?_
   rw[Array.getElem?_toList,Array.getElem?_modify,if_pos rfl,he0];rfl
  ·rw[hg]
   simp[execOp,hx,hy2,Instr.mapEntry,run_underlying ht,MapKept.run_getObj_map hb,hc,hf,MapKept.run_setObj_map _ hb,Result.andThen,he0,hek,BU,goInt]
theorem az.entryStoreS {k:κ} {m s:Nat} {v:Int} {es:List (κ × Int)} (hx:aV env x=dw b) (hy:aV env y=.int .i64 (s:Int)) (hz:aV env z=.int .i64 v) (hO:fD O m (xt c b es k s) (ln c b (bW es k v)) O')
  (kk:az P E ops K rest env O'):az P E ops K (Oper.mk none (.entryStore t x y z) ty pos af none::rest) env O:=fun I F ρ w h1 ⟨htop,L,hL,hS⟩=>by
 have hx:=fd h1 hx
 have hy:=fB h1 hy
 have hz:=fB h1 hz
 obtain ⟨A,B,hp,⟨arr,clock,rfl,he,hB,i,u0,hq,hfi⟩,hback⟩:=hO.rep hL
 have hS2:SL I.k ((b,.map arr clock)::(B++F)) E w:=hS.perm ((hp.append_right F).symm)
 have hb:=hS2.own _ (.head _)
 simp only at hb
 obtain ⟨g1,_⟩:=f7 hq
 have hrun:(execOp (Go.Proofs.YtdilpodccjlkgaaGreatDoor.ev ρ) (Oper.mk none (.entryStore t x y z) ty pos af none)).run P w=.ok .skip { w with heap:=w.heap.setIfInBounds b (.map (arr.modify i fun e=>{ e with val:=.int .i64 v }) clock) }:=by
  simp[execOp,hx,hy,hz,Instr.entryStore,MapKept.run_getObj_map hb,asInt,asIntOf,hfi,MapKept.run_setObj_map _ hb,Result.andThen]
 refine qf U ?_
 unfold iN
 rw[hrun]
 have hbm:=nq (i:=i) (g:=fun e=>{ e with val:=.int .i64 v }) hB (fun _=>rfl)
 obtain ⟨L',h7,h8⟩:=hback (qd I) (A':=[(b,.map (arr.modify i fun e=>{ e with val:=.int .i64 v }) clock)]) ⟨_,clock,rfl,by unfold bW;rw[hq];exact zY he g1,hbm.1⟩
 have hh:=MapKept.heap_set (o':=.map (arr.modify i fun e=>{ e with val:=.int .i64 v }) clock) hb
 have hS3:SL I.k ((b,.map (arr.modify i fun e=>{ e with val:=.int .i64 v }) clock)::(B++F)) E { w with heap:=w.heap.setIfInBounds b (.map (arr.modify i fun e=>{ e with val:=.int .i64 v }) clock) }:=hS2.turn rfl rfl rfl hh.1 hh.2
 exact kk I F ρ _ h1 ⟨htop,L',h7,hS3.perm (h8.append_right F)⟩
end
end
end Go.Proofs.YtdilpodccjlkgaaGreatDoor
namespace Go.Proofs.YtdilpodccjlkgaaGreatDoor
open Go.Proofs.Tryz
def kC (x:aF):Bool:=decide (18≤x.op∧x.op≤24)
section
variable {f:ad} (hD:∀b∈f.blocks,∀x∈b.insts,kC x=true→x.dst<0)
include hD
end
section
variable {f:ad}
end
end Go.Proofs.YtdilpodccjlkgaaGreatDoor
namespace Go.Proofs.YtdilpodccjlkgaaGreatDoor
open Go.Proofs.Tryz
section
variable {f:ad} (hR:bE f)
include hR
end
end Go.Proofs.YtdilpodccjlkgaaGreatDoor
namespace Go.Proofs.YtdilpodccjlkgaaGreatDoor
open Go.Proofs.Tryz
def pW (f:ad):KS→List aF→List Bool
 |_,[]=>[]
 |K,x::l=>(if kC x=true then[kB f K x] else[])++pW f (dk f K x) l
def gX (f:ad) (b:Int):KS:=fK f (qE f (upT f b).tail) b
def CD (f:ad) (b:Int):List Bool:=pW f (gX f b) (gW f b).insts
def Fb (f:ad):List Bool:=(aU f.blocks.length).flatMap (CD f)
def Fc (l:List aF):Nat:=(l.filter kC).length
theorem nU (f:ad):∀(l:List aF) (K:KS),(pW f K l).length=Fc l
 |[],_=>rfl
 |x::l,K=>by
  unfold pW Fc
  rw[qq,nU f l,List.filter_cons]
  unfold Fc
  split<;>simp<;>omega
theorem xu {f:ad} {i:Nat} {b:aY} (h:f.blocks[i]?=some b):(CD f (i:Int)).length=Fc b.insts:=by
 unfold CD;rw[nU,fw h]
end Go.Proofs.YtdilpodccjlkgaaGreatDoor
namespace Go.Proofs.YtdilpodccjlkgaaGreatDoor
open Go.Proofs.Tryz
abbrev K4:=Int × Int × Int × Int
def v4 (k:K4):Value:=.agg #[.int .i64 k.1,.int .i64 k.2.1,.int .i64 k.2.2.1,.int .i64 k.2.2.2]
def kf (k:K4):List (K4 × Int)→Nat→Option (Nat × Int)
 |[],_=>none
 |(k',v)::es,i=>if k=k' then some (i,v) else kf k es (i+1)
section
variable {P:Program} {kt:TypeId} {w:World}
end
section
variable {E:World} {P:Program} {ops:Array Oper} {K:aS→OL→Prop} {env:aS} {O O' O'':OL} {rest:List Oper} {n:Nat}
variable {d ty:Nat} {pos:String} {af:Array Edge} {x y z:Operand} {t u e T kt:TypeId} {b:Nat}
end
end Go.Proofs.YtdilpodccjlkgaaGreatDoor
namespace Go.Proofs.YtdilpodccjlkgaaGreatDoor
open Go.Proofs.Tryz
def Hb (x:aF):Int:=if 0<x.args.length then (x.args[0]?).getD 0 else -1
def Hc (x:aF):Int:=if 1<x.args.length then (x.args[1]?).getD 0 else -1
def Gn (x:aF):K4:=if Gc x.op=true∧Hc x<Hb x then (x.op,x.num,Hc x,Hb x) else (x.op,x.num,Hb x,Hc x)
structure Hd (f:ad) (r:Int→Int):Prop where
 same:∀i k x j q y,jC f i k x→jC f j q y→(Gn (uA r x)=Gn (uA r y)↔BL (uA r x) (uA r y)=true)
section
variable {f:ad} {r:Int→Int} {rk:Nat→Nat→Nat} (hH:G8 f rk) (hr:Gd f r) (hK:Hd f r)
include hH hr hK
end
end Go.Proofs.YtdilpodccjlkgaaGreatDoor
