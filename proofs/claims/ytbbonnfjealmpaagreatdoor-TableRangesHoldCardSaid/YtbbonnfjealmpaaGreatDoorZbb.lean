/- What the three laws say of a plain program, and of it with pis: plainly, for any ranges that are sound. No conditions. -/
import Derived.Test.YtbbonnfjealmpaaGreatDoorZba
import Derived.Test.YtbbonnfjealmpaaGreatDoorZu
import Derived.Test.YtbbonnfjealmpaaGreatDoorZr
import Derived.Test.YtbbonnfjealmpaaGreatDoorZc
import Derived.Test.YtbbonnfjealmpaaGreatDoorZs
set_option linter.unusedVariables false
set_option linter.unusedSimpArgs false
set_option linter.unusedSectionVars false
namespace Go.Proofs.YtbbonnfjealmpaaGreatDoor
section
open Go.Proofs.Tryz
open Go.Proofs Go.Lib Go.Shelf Go.RowKit
variable {E:World}
set_option maxRecDepth 20000
def Et (f:ab) (s:GS):Int:=if (decide ((s.pc:Int)<(aQ f s.blk).insts.length)||decide ((aQ f s.blk).term.kind=2))=true then -1 else fJ f s
theorem wC (f:ab) (iw ja jb jc jo jt:Nat) (ids:List Nat) (s:GS) (hg:bA f s) (hR:o6 f) (hs:small f):bn prog E 62 [.po iw 0] (wO f iw ja jb jc jo jt ids s) (fun y O=>y=.int .i64 (Et f s)∧O=wO f iw ja jb jc jo jt ids s):=by
 have hB:=eO hg.b0 hg.b1
 have hBm:=w9 hB
 have hsm:=(hs.2.2.2.2 _ hBm).2.2.1
 have hpc:=hg.pc
 have htm:=hR.term _ hBm
 have hl2:=hg.lb
 have hn:Et f s=if (decide ((s.pc:Int)<(aQ f s.blk).insts.length)||decide ((aQ f s.blk).term.kind=2))=true then -1 else fJ f s:=rfl
 obtain ⟨B,hBe⟩:∃B,aQ f s.blk=B:=⟨_,rfl⟩
 have hnx:fJ f s=if B.term.kind=0∨gb s.bools B.term.var=true then B.term.to0 else B.term.to1:=by rw[←hBe];rfl
 rw[hBe] at hB hsm hpc htm hn
 rw[hn]
 clear hn
 refine zp func62 U (by decide) U<|ae<|am U<|z2<|zb<|zr (fun j=>Nat.beq j 12) (by kernel_rfl) U (zo (.r (.rest _)))<|ai 0 U (dR U)<|ai 1 U (zy U)<|ai 2 U (zh jf U ji (by decide) U U)<|ai 3 U (zh je U Zd (by decide) U U)<|ai 4 U (zq (c:=.fro _ _) Zf U ⟨_,.head⟩ U)<|ai 5 U (dR U)<|ai 6 U (zy U)<|ai 7 U (zh jf U j9 (by decide) U U)<|ai 8 U (zq (c:=.int _ _) jg U ⟨_,.head⟩ U)<|ai 9 U (bB s.blk.toNat ju Z2 U U (wj hg.b0).symm hB)<|ai 10 U (yp Yc Z2 U U)<|aN 11 U<|zu (cs:=[.e,.n,.n,.int .i64 0,.int .i64 0,.int .i64 0,.int .i64 0]) Zh U U<|fun i3=>z2<|yc<|yk (i:=12) U (by kernel_rfl) (by kernel_rfl)<|zj Z2 U U U U U U .t1 U<|z2<|yf (by kernel_rfl)<|y7 (y8 (t:=3) U .t1)<|ae<|ak jr U Zp U U<|ac Xk Zp U U<|zu (cs:=[.int .i64 0,.int .i64 0,.int .i64 0,.int .i64 0]) Xf U U<|fun i4=>zj Zp U U U U U U .head U<|zd (y8 (t:=4) U .head)<|z2<|zb<|zi<|zb<|yb (γ:=Bool) [0,4] (fun u=>[(18,.bool u)]) (fun u=>wO f iw ja jb jc jo jt ids s) (fun u=>u=(decide ((s.pc:Int)<B.insts.length)||decide (B.term.kind=2))) ?_ (fun _ _ h=>h) ?_
 ·refine zr (fun j=>false) (by kernel_rfl) U (zo (.r (.rest _)))<|ai 0 U (dR U)<|ai 1 U (zy U)<|ai 2 U (zh jf U j9 (by decide) U U)<|ai 3 U (zq (c:=.int _ _) jg U ⟨_,.head⟩ U)<|ai 4 U (db jr U Zw U U)<|ai 5 U (gd Y3 U)<|ai 6 U (Gv.lenM Z6 U)<|ai 7 U (Gv.lss U U)<|ai 8 U (zX U)<|bT.case (s:=27) U (fun c1=>?_) (fun c1=>?_)
  ·refine fv 9 U U U c1<|fv 10 U U U c1<|fv 11 U U U c1<|ai 12 U (Ep U c1 U)<|ai 13 U (qO U)<|bI ?_
   exact ⟨_,b7,aL,aE,by simp_all<;>omega⟩
  ·refine ie 9 U U U c1 (db jj U Y4 U U)<|ie 10 U U U c1 (dQ Yi U)<|ie 11 U U U c1 (Gv.eqlI U U)<|ai 12 U (Eg U c1 U)<|ai 13 U (qO U)<|bI ?_
   exact ⟨_,b7,aL,aE,by simp_all<;>omega⟩
 ·rintro u hu
  subst hu
  refine zw U (fun cu=>?_) (fun cu=>?_)
  ·rw[if_pos cu]
   refine ae<|am U<|z2<|zg<|zm (x:=.int _ _) U ?_
   exact ⟨rfl,rfl⟩
  ·rw[if_neg (by rw[cu];decide)]
   rw[hnx]
   refine zb<|zr (fun j=>false) (by kernel_rfl) U (zo (.r (.l (.r (.rest _)))))<|ai 0 U (db jj U Y4 U U)<|ai 1 U (dQ Yi U)<|ai 2 U (Gv.eqlI U U)<|ai 3 U (zX U)<|bT.case (s:=36) U (fun c0=>?_) (fun c0=>?_)
   ·have d0:B.term.kind=0:=by simpa using c0
    rw[if_pos (.inl d0)]
    refine fv 4 U U U c0<|fv 5 U U U c0<|fv 6 U U U c0<|fv 7 U U U c0<|fv 8 U U U c0<|fv 9 U U U c0<|fv 10 U U U c0<|fv 11 U U U c0<|ai 12 U (Ep U c0 U)<|ai 13 U (qO U)<|bI<|y7 (za (zc .t2))<|y7 (za (zc .t1))<|yr U U<|ae<|ak jj U Zg U U<|z8 (yx (j:=0) Z9 j9 U U U (by decide) U)<|aA jg U<|am U<|z2<|zg<|zm (x:=.int _ _) U ?_
    exact ⟨rfl,rfl⟩
   ·have d0:¬B.term.kind=0:=by simpa using c0
    obtain ⟨v1,v0⟩:=Ad htm d0
    refine ie 4 U U U c0 (dR U)<|ie 5 U U U c0 (zy U)<|ie 6 U U U c0 (zh jf U Yg (by decide) U U)<|ie 7 U U U c0 (zq (c:=.own _ _) Yu U ⟨_,.head⟩ U)<|ie 8 U U U c0 (db jj U j9 U U)<|ie 9 U U U c0 (dQ jg U)<|ie 10 U U U c0 (yd (j:=B.term.var.toNat) jw Zb U U (wj v0).symm ⟨_,.t1⟩ ((aM _).trans hl2) (by omega))<|ie 11 U U U c0 (Gv.loadB (j:=B.term.var.toNat) Yn U ⟨_,.t1⟩ (ml (by omega) v0))<|ai 12 U (Eg U c0 U)<|ai 13 U (qO U)<|bI<|y7 (za (zc .t2))<|y7 (za (zc .t1))<|zw U (fun cw=>?_) (fun cw=>?_)
    ·have cw:gb s.bools B.term.var=true:=cw
     rw[if_pos (.inr cw)]
     refine ae<|ak jj U Zg U U<|z8 (yx (j:=0) Z9 j9 U U U (by decide) U)<|aA jg U<|am U<|z2<|zg<|zm (x:=.int _ _) U ?_
     exact ⟨rfl,rfl⟩
    ·have cw:gb s.bools B.term.var=false:=cw
     rw[if_neg (by rintro (h|h);exact d0 h;rw[cw] at h;cases h)]
     refine zf<|ae<|ak jj U Zg U U<|z8 (yx (j:=1) Z9 j9 U U U (by decide) U)<|aA jg U<|am U<|z2<|zg<|zm (x:=.int _ _) U ?_
     exact ⟨rfl,rfl⟩
theorem uZ (f:ab) (iw ja jb jc jo jt:Nat) (ids:List Nat) (s:GS) (hg:bA f s) (hR:o6 f) (hs:small f):bn prog E 33 [.po iw 0] (wO f iw ja jb jc jo jt ids s) (fun y O=>y=.fro 1 ((dw f s).map bO)∧O=wO f iw ja jb jc jo jt ids s):=by
 have hB:=eO hg.b0 hg.b1
 have hBm:=w9 hB
 have hsm:=(hs.2.2.2.2 _ hBm).2.2.1
 have hpc:=hg.pc
 have hN:=wC (E:=E) f iw ja jb jc jo jt ids s hg hR hs
 have hnt:=kZ hR hg
 unfold Et at hN
 have hmk:dw f s=match (aQ f s.blk).insts[s.pc]? with
  |some x=>if 0≤x.dst then[x.dst] else[]
  |none=>if (aQ f s.blk).term.kind=2 then[] else (aQ f (fJ f s)).phis.map (·.dst):=rfl
 obtain ⟨B,hBe⟩:∃B,aQ f s.blk=B:=⟨_,rfl⟩
 rw[hBe] at hB hsm hpc hmk hnt hN
 refine zp func33 U (by decide) U<|ae<|cE U<|z2<|zb<|zr (fun j=>Nat.beq j 12) (by kernel_rfl) U (zo (.r (.rest _)))<|ai 0 U (dR U)<|ai 1 U (zy U)<|ai 2 U (zh jf U ji (by decide) U U)<|ai 3 U (zh je U Zd (by decide) U U)<|ai 4 U (zq (c:=.fro _ _) Zf U ⟨_,.head⟩ U)<|ai 5 U (dR U)<|ai 6 U (zy U)<|ai 7 U (zh jf U j9 (by decide) U U)<|ai 8 U (zq (c:=.int _ _) jg U ⟨_,.head⟩ U)<|ai 9 U (bB s.blk.toNat ju Z2 U U (wj hg.b0).symm hB)<|ai 10 U (yp Yc Z2 U U)<|aN 11 U<|zu (cs:=[.e,.n,.n,.int .i64 0,.int .i64 0,.int .i64 0,.int .i64 0]) Zh U U<|fun i3=>z2<|yc<|yk (i:=12) U (by kernel_rfl) (by kernel_rfl)<|zj Z2 U U U U U U .t1 U<|z2<|yf (by kernel_rfl)<|y7 (y8 (t:=3) U .t1)<|ae<|cE U<|z2<|gc (t:=4) (k:=1) (T:=3) U<|fun i4=>zb<|zb<|zr (fun j=>false) (by kernel_rfl) U (zo (.l (.r (.rest _))))<|ai 0 U (dR U)<|ai 1 U (zy U)<|ai 2 U (zh jf U j9 (by decide) U U)<|ai 3 U (zq (c:=.int _ _) jg U ⟨_,.head⟩ U)<|ai 4 U (db jr U Zw U U)<|ai 5 U (gd Y3 U) ?_
 refine ai 6 U (Gv.lenM Z6 U)<|ai 7 U (Gv.lss U U)<|bI<|yb (γ:=Nat) [] (fun g=>[(4,.own g (dw f s).length)]) (fun g=>(g,.grow 1 3 (cI (dw f s)))::wO f iw ja jb jc jo jt ids s) (fun g=>True) ?_ (fun _ _ h=>h) ?_
 ·refine zw U (fun cp=>?_) (fun cp=>?_)
  ·have hp:s.pc<B.insts.length:=by have:=wk cp;omega
   obtain ⟨x,hx⟩:∃x,B.insts[s.pc]=x:=⟨_,rfl⟩
   have hxg:B.insts[s.pc]?=some x:=by rw[qx hp,hx]
   rw[hxg] at hmk
   refine zb<|zr (fun j=>false) (by kernel_rfl) U (zo (.r (.rest _)))<|ai 0 U (db jr U Zw U U)<|ai 1 U (gd Y3 U)<|ai 2 U (dR U)<|ai 3 U (zy U)<|ai 4 U (zh jf U j9 (by decide) U U)<|ai 5 U (zq (c:=.int _ _) jg U ⟨_,.head⟩ U)<|ai 6 U (bB s.pc Z6 Za U U U hxg)<|ai 7 U (db jd U j9 U U)<|ai 8 U (dQ jg U)<|ai 9 U (BI U)<|bI<|y7 (za (zc .t1))<|ae<|aa U<|z8 (q9 U U)<|z2<|zn U (fun cd=>?_) (fun cd=>?_)
   ·have hm:dw f s=[x.dst]:=hmk.trans (if_pos (by simpa using cd))
    rw[hm]
    refine aW<|bL U<|aa U<|zx (rows:=[[_]]) cA U U U U U<|yg (k:=1) j7 Y5 U U U U U (fun _=>.head) (by simp) (by decide) U (by show (_+_)*8≤_;simp<;>omega) (by simp<;>omega)<|fun i42=>z8 (ei U)<|z2 ?_
    exact ⟨i42,trivial,aL,aE,trivial⟩
   ·have hm:dw f s=[]:=hmk.trans (if_neg (by simpa using cd))
    rw[hm]
    refine zf ?_
    exact ⟨i4,trivial,aL,aE,trivial⟩
  ·have hp:B.insts[s.pc]?=none:=by rw[List.getElem?_eq_none];have:=wl cp;omega
   have hp2:¬(s.pc:Int)<B.insts.length:=wl cp
   rw[hp] at hmk
   rw[wg hp2,Bool.false_or] at hN
   refine ae<|bb U<|y3 U (zo (.l (.r (.l (.l (.l (.l (.l (.l (.rest _)))))))))) (hN) ?_
   rintro r44 O44 ⟨rfl,rfl⟩
   refine am U<|z2<|y7 (za (zc .t7)) ?_
   by_cases hk:B.term.kind=2
   ·rw[if_pos (we hk)]
    rw[if_pos hk] at hmk
    rw[hmk]
    refine ae<|aa U<|z8 (q9 U U)<|z2<|yq U (by decide)<|zf ?_
    exact ⟨i4,trivial,aL,aE,trivial⟩
   ·rw[if_neg (by rw[wg hk];decide)]
    rw[if_neg hk] at hmk
    obtain ⟨g0,g1⟩:=hnt hk
    obtain ⟨C,hC⟩:∃C,aQ f (fJ f s)=C:=⟨_,rfl⟩
    have hgC:=eO g0 g1
    rw[hC] at hmk hgC
    have hpl:=(hs.2.2.2.2 _ (w9 hgC)).2.1
    refine ae<|aa U<|z8 (q9 U U)<|z2<|yr U (we g0)<|ae<|bb U<|ax U<|z8 (zh jf U ji (by decide) U U)<|z8 (zh je U Zd (by decide) U U)<|z8 (zq (c:=.fro _ _) Zf U ⟨_,.t1⟩ U)<|aa U<|z8 (qh (j:=(fJ f s).toNat) ju Z2 U U (wj g0).symm hgC)<|ak jr U Zv U U<|aI Yd U<|aj Z8 U<|aa U<|z2<|zi<|y5 (γ:=Nat × Nat) [55,56] (fun g=>[(57,.i g.1),(4,.own g.2 g.1)]) (fun g=>(g.2,.grow 1 3 (cI ((C.phis.map (·.dst)).take g.1)))::wO f iw ja jb jc jo jt ids s) (fun g=>g.1≤C.phis.length) (fun g=>C.phis.length - g.1) (0,i4) b7 aE (w2 _) ?_
    rintro ⟨k,im⟩ hk3
    try dsimp only at *
    refine ae<|ap U U<|z2<|zb<|zn U (fun ck=>?_) (fun ck=>?_)
    ·have hk2:k<C.phis.length:=by simp at ck;omega
     obtain ⟨p,hpp⟩:∃p,C.phis[k]?=some p:=⟨_,qx hk2⟩
     have htk:(C.phis.map (·.dst)).take (k+1)=(C.phis.map (·.dst)).take k++[p.dst]:=by rw[List.take_add_one,w7,hpp];rfl
     refine zf<|zb<|zi<|ae<|z8 (bB k Z8 Ze U U U hpp)<|ac Ys Ze U U<|zu (cs:=[.int .i64 0,.n,.n]) Y1 U U<|fun i8=>zj Ze U U U U U U .head U<|zd (y8 (t:=8) U .head)<|z2<|aW<|bL U<|ak Z4 U j9 U U<|aA jg U<|zx (rows:=[[_]]) cA U U U U U<|yg (k:=1) j7 Y5 U U U U U (fun _=>.head) (by rw[aF,wd,w6];omega) (by decide) U (by show (_+1)*8≤_;omega) (by show _+1≤_;omega)<|fun i65=>z8 (ei U)<|z2<|aW<|aC U U<|aa U<|z2 ?_
     exact ⟨(k+1,i65),b7,b7,⟨_,(.refl _),(by dsimp only;rw[htk,←kK];rfl)⟩,hk2,by dsimp only;omega⟩
    ·obtain rfl:k=C.phis.length:=by simp at ck;omega
     have hml:(C.phis.map (·.dst)).length=C.phis.length:=w6 ..
     rw[List.take_of_length_le (by rw[hml];exact Nat.le_refl _)]
     rw[hmk]
     refine y4 ?_
     exact ⟨im,trivial,⟨congrArg (AV.own im) hml.symm,trivial⟩,aE,trivial⟩
 ·rintro im _
  refine y7 (aR.knowI (t:=4) U .head U)<|ae<|bd U<|z8 (oA U)<|z2<|zg<|zm (x:=.fro _ _) U ?_
  exact ⟨rfl,rfl⟩
def qQ (t x:Int) (b:Bool) (n:Int):Int:=if t=0 then x else if t=2 then n else if b=true then 1 else 0
theorem u4 (t x:Int) (b:Bool) (n:Int):aP prog E 73 [.int .i64 t,.int .i64 x,.bool b,.int .i64 n] (.int .i64 (qQ t x b n)):=by
 refine zp func73 U (by decide) U<|ae<|am U<|z2<|zb<|zi<|ae<|aa U<|ao U U<|ad U<|z2<|zw U (fun c2=>?_) (fun c2=>?_)
 ·refine ae<|aa U<|am U<|z2<|zg<|zm (x:=.int _ _) U ?_
  exact congrArg (AV.int .i64) (by unfold qQ;simp_all)
 ·refine ae<|aa U<|ao U U<|ad U<|z2<|zw U (fun c3=>?_) (fun c3=>?_)
  ·refine ae<|aa U<|am U<|z2<|zg<|zm (x:=.int _ _) U ?_
   exact congrArg (AV.int .i64) (by unfold qQ;simp_all)
  ·refine ae<|aq U<|ad U<|z2<|zw U (fun c4=>?_) (fun c4=>?_)
   ·refine ae<|am U<|z2<|zg<|zm (x:=.int _ _) U ?_
    exact congrArg (AV.int .i64) (by unfold qQ;simp_all)
   ·refine zf<|ae<|am U<|z2<|zg<|zm (x:=.int _ _) U ?_
    exact congrArg (AV.int .i64) (by unfold qQ;simp_all)
theorem u5 (f:ab) (iw ja jb jc jo jt:Nat) (ids:List Nat) (s:GS) (v:Nat) (hv:v<f.vars.length) (hids:ids.length=s.arrays.length) (hg:bA f s):bn prog E 39 [.po iw 0,.int .i64 v] (wO f iw ja jb jc jo jt ids s) (fun y O=>y=.int .i64 (Gz f s v)∧O=wO f iw ja jb jc jo jt ids s):=by
 have hl0:=hg.li
 have hl1:=hg.lb
 have hl2:=hg.la
 have hls:=hg.ls
 have hlr:=hg.lr
 obtain ⟨x,hx⟩:∃x,f.vars[v]?=some x:=⟨_,qx hv⟩
 have hki:aU f v=x.ty:=by unfold aU;rw[Int.toNat_natCast,hx];rfl
 have hvl:=fun t y b n=>u4 (E:=E) t y b n
 obtain ⟨a,ha⟩:∃a,vi s.arrs v=a:=⟨_,rfl⟩
 have hvw:Gz f s v=qQ x.ty (vi s.ints v) (gb s.bools v) (if 0≤a∧a<s.arrays.length then ((cY s a).length:Int) else 0):=by unfold Gz qQ;rw[hki,ha]
 rw[hvw]
 clear hvw
 refine zp func39 U (by decide) U<|ae<|am U<|z2<|ae<|am U<|z2<|zb<|ae<|bb U<|ax U<|z8 (zh jf U jh (by decide) U U)<|z8 (zq (c:=.own _ _) jx U ⟨_,.head⟩ U)<|aa U<|z8 (yd (j:=v) j7 j9 U U U ⟨_,.t3⟩ ((aF _).trans hl2) (by omega))<|z8 (yw (j:=v) jg U ⟨_,.t3⟩ (fR (by omega) (Int.natCast_nonneg v)))<|am U<|z2 ?_
 rw[ha]
 refine zb<|yb (γ:=Bool) [0,1,5,6] (fun u=>[(24,.bool u)]) (fun u=>wO f iw ja jb jc jo jt ids s) (fun u=>u=(decide (0≤a)&&decide (a<s.arrays.length))) ?_ (fun _ _ h=>h) ?_
 ·refine aW<|aa U<|z8 (q9 U U)<|aq U<|zt (s:=16) U (fun c5=>?_) (fun c5=>?_)
  ·refine z7 U U c5<|aa U<|z7 U U c5<|bb U<|z7 U U c5<|ax U<|z7 U U c5<|z8 (zh jf U Yh (by decide) U U)<|z7 U U c5<|z8 (zq (c:=.own _ _) X3 U ⟨_,.head⟩ U)<|z7 U U c5<|z8 (qp Zm U)<|z7 U U c5<|ap U U<|au U c5 U<|z2 ?_
   exact ⟨_,(by repeat (first|with_reducible exact yh _ _|refine yu rfl ?_|exact fC)),aL,aE,by simp_all<;>omega⟩
  ·refine z6 U U c5<|z6 U U c5<|z6 U U c5<|z6 U U c5<|z6 U U c5<|z6 U U c5<|z6 U U c5<|aw U c5 U<|z2 ?_
   exact ⟨_,(by repeat (first|with_reducible exact yh _ _|refine yu rfl ?_|exact fC)),aL,aE,by simp_all<;>omega⟩
 ·rintro u hu
  refine yb (γ:=Int) [0,1] (fun w=>[(5,.i w)]) (fun w=>wO f iw ja jb jc jo jt ids s) (fun w=>w=if 0≤a∧a<s.arrays.length then ((cY s a).length:Int) else 0) ?_ (fun _ _ h=>h) ?_
  ·refine zw U (fun c2=>?_) (fun c2=>?_)
   ·have h12:0≤a∧a<s.arrays.length:=by rw[hu] at c2;simpa using c2
    obtain ⟨q,hq⟩:=tg hids (j:=a.toNat) (by omega)
    refine aW<|bb U<|ax U<|z8 (zh jf U Yh (by decide) U U)<|z8 (zq (c:=.own _ _) X3 U ⟨_,.head⟩ U)<|aa U<|z8 (yd (j:=a.toNat) Zm Zx U U (by omega) ⟨_,.t4⟩ (jI hids) (by omega))<|z8 (qv (c:=_) Ye U ⟨_,.t4⟩ (iQ hq (iF h12.1 h12.2)))<|z8 (qp Z5 U)<|am U<|z2 ?_
    exact ⟨_,(by repeat (first|with_reducible exact yh _ _|refine yu rfl ?_|exact b7)),aL,aE,(by rw[if_pos h12])⟩
   ·have h12:¬(0≤a∧a<s.arrays.length):=by rw[hu] at c2;simpa using c2
    refine zf ?_
    exact ⟨_,(by repeat (first|with_reducible exact yh _ _|refine yu rfl ?_|exact b7)),aL,aE,(by rw[if_neg h12])⟩
  ·rintro w hw
   refine zb<|zr (fun j=>false) (by kernel_rfl) U (zo (.r (.r (.r (.rest _)))))<|ai 0 U (dR U)<|ai 1 U (zy U)<|ai 2 U (zh jf U ji (by decide) U U)<|ai 3 U (zh je U Zn (by decide) U U)<|ai 4 U (zq (c:=.fro _ _) Zz U ⟨_,.head⟩ U)<|ai 5 U (dx U)<|ai 6 U (bB v Z7 Yf U U U hx)<|ai 7 U (db Zt U X9 U U)<|ai 8 U (dQ Xj U)<|ai 9 U (dR U)<|ai 10 U (zy U)<|ai 11 U (zh jf U Zx (by decide) U U)<|ai 12 U (zq (c:=.own _ _) Ye U ⟨_,.head⟩ U)<|ai 13 U (dx U)<|ai 14 U (yd (j:=v) Z5 Z1 U U U ⟨_,.t1⟩ ((aF _).trans hl0) (by omega))<|ai 15 U (yw (j:=v) Zc U ⟨_,.t1⟩ (fR (by omega) (Int.natCast_nonneg v)))<|ai 16 U (dR U)<|ai 17 U (zy U)<|ai 18 U (zh jf U Yg (by decide) U U)<|ai 19 U (zq (c:=.own _ _) Yu U ⟨_,.head⟩ U)<|ai 20 U (dx U)<|ai 21 U (yd (j:=v) jw Zb U U U ⟨_,.t2⟩ ((aM _).trans hl1) (by omega))<|ai 22 U (Gv.loadB (j:=v) Yn U ⟨_,.t2⟩ (ml (by omega) (Int.natCast_nonneg v)))<|ai 23 U (dx U)<|aN 24 U<|ze (hvl _ _ _ _) U<|z2<|ai 25 U (BI U)<|bI ?_
   subst hw
   refine zg<|zm (x:=.int _ _) U ?_
   exact ⟨rfl,rfl⟩
end
section
open Go.Proofs.Tryz
open Go.Proofs Go.Lib Go.Shelf Go.RowKit
theorem CL:em prog 99 #[(0,3),(3,1),(4,1),(5,1),(6,1),(7,1),(8,1),(9,13),(22,1)] [.n,.n,.n,.n,.n,.n,.n,.int .i64 0,.int .i64 0,.int .i64 0,.int .i64 0,.int .i64 0,.n,.int .i64 0,.int .i64 0,.int .i64 0,.int .i64 0,.int .i64 0,.int .i64 0,.int .i64 0,.int .i64 0,.int .i64 0,.bool false]:=⟨_,_,jf,zeroValue99,fun w=>by kernel_rfl,rfl⟩
variable {E:World}
set_option maxRecDepth 20000
def Eu (a:Bh):List AV:=[.int .i64 a.int,.bool a.b,.int .i64 a.arr]
def Ev (r:List Int):List AV:=[.fro 1 (r.map bO)]
def ue (i:uL):List AV:=[.fro 3 (i.args.map Eu),.fro 1 (i.arrays.map Ev)]
def mO (n k:Nat):List Int:=List.replicate k (-1)++List.replicate (n - k) 0
theorem Hg (n:Nat):mO n 0=List.replicate n 0:=by unfold mO;simp
theorem Hh (n:Nat):mO n n=List.replicate n (-1):=by unfold mO;simp
theorem uf {n k:Nat} (h:k≤n):(mO n k).length=n:=by unfold mO;simp;omega
theorem CM {n k:Nat} (h:k<n):(mO n k).set k (-1)=mO n (k+1):=by
 unfold mO
 rw[List.set_append_right _ _ (by simp),List.length_replicate,Nat.sub_self,show n - k=(n - (k+1))+1 by omega,List.replicate_succ,List.set_cons_zero,List.replicate_succ',qz];rfl
section
variable {α β:Type} {g:Nat→α→β} {d:β} {n k:Nat} {l:List α}
theorem Af:d7 g d n (l.take 0)=List.replicate n d:=by unfold d7;simp
theorem Ew (h:l.length≤n):(d7 g d n l).length=n:=by unfold d7;simp;omega
theorem gA (h:l.length≤n) (k:Nat):(d7 g d n (l.take k)).length=n:=Ew (by rw[wd];omega)
theorem nH (hk:k<l.length) (h:l.length≤n):(d7 g d n (l.take k)).set k (g k l[k])=d7 g d n (l.take (k+1)):=by
 have hl:((l.take k).zipIdx.map fun q=>g q.2 q.1).length=k:=by simp;omega
 unfold d7
 rw[List.set_append_right _ _ (by rw[hl];exact Nat.le_refl _),hl,Nat.sub_self,wd,wd,Nat.min_eq_left (by omega),Nat.min_eq_left (by omega),show n - k=(n - (k+1))+1 by omega,List.replicate_succ,List.set_cons_zero,qy hk,List.zipIdx_append,wb,qz]
 have:(l.take k).length=k:=by rw[wd];omega
 simp[this]
theorem oC (hk:k<l.length) (h:l.length≤n) (e:g k l[k]=d):d7 g d n (l.take k)=d7 g d n (l.take (k+1)):=by
 rw[←nH hk h,e]
 refine (List.ext_getElem? fun j=>?_)
 by_cases hj:k=j
 ·subst hj
  rw[List.getElem?_set_self (by rw[gA h];omega)]
  have hl:((l.take k).zipIdx.map fun q=>g q.2 q.1).length=k:=by simp;omega
  unfold d7
  rw[List.getElem?_append_right (by rw[hl];exact Nat.le_refl _),hl,Nat.sub_self,wd,Nat.min_eq_left (by omega),List.getElem?_replicate,if_pos (by omega)]
 ·rw[List.getElem?_set_ne hj]
end
theorem Ex (r:List Int):(r.map bO).flatten=cI r:=kJ r
abbrev Hi (ints:List Int) (bools:List Bool) (arrs:List Int) (arrays:List (List Int)):GS:=⟨ints,bools,arrs,arrays,0,0,3,0,0,[],0,fun _=>0,false⟩
theorem Hj (f:ab) (iw ja jb jc jo jt:Nat) {ids:List Nat} {s:GS} (h:ids.length=s.arrays.length) (i:Nat) (r:List Int) (m:Nat) (hm:m=r.length):(iw,bC.cells 99 (bw f++[.own ja f.vars.length,.own jb f.vars.length,.own jc f.vars.length,.own jo (s.arrays.length+1),.int .i64 s.blk,.int .i64 s.pc,.int .i64 s.en,.int .i64 s.val,.int .i64 s.tr,.own jt s.trace.length,.int .i64 s.st,.int .i64 (s.ck 0),.int .i64 (s.ck 1),.int .i64 (s.ck 2),.int .i64 (s.ck 3),.int .i64 (s.ck 4),.int .i64 (s.ck 5),.int .i64 (s.ck 6),.int .i64 (s.ck 7),.bool s.ended]))::(ja,.grow 1 2 (cI s.ints))::(jb,.grow 1 4 (cB s.bools))::(jc,.grow 1 3 (cI s.arrs))::(jo,.grow 1 66 (jH ids s.arrays++[.own i m]))::(jt,.grow 1 2 (cI s.trace))::[(0,IJ (tf (ids++[i]) (s.arrays++[r])))]=wO f iw ja jb jc jo jt (ids++[i]) { s with arrays:=s.arrays++[r] }:=by
 subst hm
 unfold wO wR IR
 rw[←uU i r h]
 simp only[w5,List.length_singleton]
set_option maxHeartbeats 16000000 in
theorem wD (f:ab) (i:uL) (hv:f.vars.length≤1000) (ha:i.args.length≤f.vars.length) (hn:i.arrays.length≤40) (hr:∀r∈i.arrays,r.length≤100):bn prog E 30 [.agg (bw f),.agg (ue i)] [] (fun y O=>∃iw ja jb jc jo jt ids,ids.length=i.arrays.length∧y=.po iw 0∧O=wO f iw ja jb jc jo jt ids (kw f i)):=by
 refine zp func30 U (by decide) U<|ae<|y6 (cs:=_) U U U<|y6 (cs:=_) U U U<|cE U<|z2<|ae<|ak je U Zn U U<|aI Zz U<|aj Z7 U<|am U<|z2<|zb<|yb (γ:=Nat × Nat × Nat × Nat) [2,3] (fun g=>[(6,.po g.1 0)]) (fun g=>[(g.1,.cells 99 (bw f++[.own g.2.1 f.vars.length,.own g.2.2.1 f.vars.length,.own g.2.2.2 f.vars.length,.n,.int .i64 0,.int .i64 0,.int .i64 0,.int .i64 0,.int .i64 0,.n,.int .i64 0,.int .i64 0,.int .i64 0,.int .i64 0,.int .i64 0,.int .i64 0,.int .i64 0,.int .i64 0,.int .i64 0,.bool false])),(g.2.1,.grow 1 2 (cI (List.replicate f.vars.length 0))),(g.2.2.1,.grow 1 4 (cB (List.replicate f.vars.length false))),(g.2.2.2,.grow 1 3 (cI (List.replicate f.vars.length 0)))]) (fun g=>True) ?_ (fun _ _ h=>h) ?_
 ·refine zr (fun j=>false) (by kernel_rfl) U (zo (.rest _))<|ai 0 U (yp Z0 ji U U)<|ai 1 U (dx U)<|ai 3 U (dx U)<|ai 5 U (dx U)<|qk (i:=2) (j:=4) (m:=6) U U U (by kernel_rfl) ?_ ?_ ?_
  ·refine qt (m:=f.vars.length) Z5 X8 U U U U U (by simp) (by simp) (by show (8:Int)*_≤_;omega) (by omega)<|fun i17=>z2<|yj (i:=4) (j:=6) U U (by kernel_rfl) ?_ ?_
   ·refine qm (m:=f.vars.length) jw Yq U U U U U (by simp) (by simp) (by show (1:Int)*_≤_;omega) (by omega)<|fun i19=>z2<|aN 6 U<|qt (m:=f.vars.length) j7 Y5 U U U U U (by simp) (by simp) (by show (8:Int)*_≤_;omega) (by omega)<|fun i21=>z2<|ai 7 U (zz (cps:=[(0,[_,_,_]),(1,[_]),(2,[_]),(3,[_])]) (rs:=[_,_,_,_,_,_,.n,.int .i64 0,.int .i64 0,.int .i64 0,.int .i64 0,.int .i64 0,.n,.int .i64 0,.int .i64 0,.int .i64 0,.int .i64 0,.int .i64 0,.int .i64 0,.int .i64 0,.int .i64 0,.int .i64 0,.bool false]) CL U U U)<|aN 8 U<|yl (cs:=_) U U U U<|fun i23=>zd (za (zc .t1))<|zd (za (zc .t2))<|zd (za (zc .t3))<|zd (za (zc .t3))<|z2<|ai 9 U (gu U)<|bI ?_
    exact ⟨(i23,i17,i19,i21),b7,aL,aE,trivial⟩
   ·refine qt (m:=f.vars.length) j7 Y5 U U U U U (by simp) (by simp) (by show (8:Int)*_≤_;omega) (by omega)<|fun i21=>z2<|aN 4 U<|qm (m:=f.vars.length) jw Yq U U U U U (by simp) (by simp) (by show (1:Int)*_≤_;omega) (by omega)<|fun i19=>z2<|ai 7 U (zz (cps:=[(0,[_,_,_]),(1,[_]),(2,[_]),(3,[_])]) (rs:=[_,_,_,_,_,_,.n,.int .i64 0,.int .i64 0,.int .i64 0,.int .i64 0,.int .i64 0,.n,.int .i64 0,.int .i64 0,.int .i64 0,.int .i64 0,.int .i64 0,.int .i64 0,.int .i64 0,.int .i64 0,.int .i64 0,.bool false]) CL U U U)<|aN 8 U<|yl (cs:=_) U U U U<|fun i23=>zd (za (zc .t2))<|zd (za (zc .t2))<|zd (za (zc .t3))<|zd (za (zc .t3))<|z2<|ai 9 U (gu U)<|bI ?_
    exact ⟨(i23,i17,i19,i21),b7,aL,aE,trivial⟩
  ·refine qm (m:=f.vars.length) jw Yq U U U U U (by simp) (by simp) (by show (1:Int)*_≤_;omega) (by omega)<|fun i19=>z2<|yj (i:=2) (j:=6) U U (by kernel_rfl) ?_ ?_
   ·refine qt (m:=f.vars.length) Z5 X8 U U U U U (by simp) (by simp) (by show (8:Int)*_≤_;omega) (by omega)<|fun i17=>z2<|aN 6 U<|qt (m:=f.vars.length) j7 Y5 U U U U U (by simp) (by simp) (by show (8:Int)*_≤_;omega) (by omega)<|fun i21=>z2<|ai 7 U (zz (cps:=[(0,[_,_,_]),(1,[_]),(2,[_]),(3,[_])]) (rs:=[_,_,_,_,_,_,.n,.int .i64 0,.int .i64 0,.int .i64 0,.int .i64 0,.int .i64 0,.n,.int .i64 0,.int .i64 0,.int .i64 0,.int .i64 0,.int .i64 0,.int .i64 0,.int .i64 0,.int .i64 0,.int .i64 0,.bool false]) CL U U U)<|aN 8 U<|yl (cs:=_) U U U U<|fun i23=>zd (za (zc .t1))<|zd (za (zc .t3))<|zd (za (zc .t3))<|zd (za (zc .t3))<|z2<|ai 9 U (gu U)<|bI ?_
    exact ⟨(i23,i17,i19,i21),b7,aL,aE,trivial⟩
   ·refine qt (m:=f.vars.length) j7 Y5 U U U U U (by simp) (by simp) (by show (8:Int)*_≤_;omega) (by omega)<|fun i21=>z2<|aN 2 U<|qt (m:=f.vars.length) Z5 X8 U U U U U (by simp) (by simp) (by show (8:Int)*_≤_;omega) (by omega)<|fun i17=>z2<|ai 7 U (zz (cps:=[(0,[_,_,_]),(1,[_]),(2,[_]),(3,[_])]) (rs:=[_,_,_,_,_,_,.n,.int .i64 0,.int .i64 0,.int .i64 0,.int .i64 0,.int .i64 0,.n,.int .i64 0,.int .i64 0,.int .i64 0,.int .i64 0,.int .i64 0,.int .i64 0,.int .i64 0,.int .i64 0,.int .i64 0,.bool false]) CL U U U)<|aN 8 U<|yl (cs:=_) U U U U<|fun i23=>zd (za (zc .t2))<|zd (za (zc .t3))<|zd (za (zc .t3))<|zd (za (zc .t3))<|z2<|ai 9 U (gu U)<|bI ?_
    exact ⟨(i23,i17,i19,i21),b7,aL,aE,trivial⟩
  ·refine qt (m:=f.vars.length) j7 Y5 U U U U U (by simp) (by simp) (by show (8:Int)*_≤_;omega) (by omega)<|fun i21=>z2<|yj (i:=2) (j:=4) U U (by kernel_rfl) ?_ ?_
   ·refine qt (m:=f.vars.length) Z5 X8 U U U U U (by simp) (by simp) (by show (8:Int)*_≤_;omega) (by omega)<|fun i17=>z2<|aN 4 U<|qm (m:=f.vars.length) jw Yq U U U U U (by simp) (by simp) (by show (1:Int)*_≤_;omega) (by omega)<|fun i19=>z2<|ai 7 U (zz (cps:=[(0,[_,_,_]),(1,[_]),(2,[_]),(3,[_])]) (rs:=[_,_,_,_,_,_,.n,.int .i64 0,.int .i64 0,.int .i64 0,.int .i64 0,.int .i64 0,.n,.int .i64 0,.int .i64 0,.int .i64 0,.int .i64 0,.int .i64 0,.int .i64 0,.int .i64 0,.int .i64 0,.int .i64 0,.bool false]) CL U U U)<|aN 8 U<|yl (cs:=_) U U U U<|fun i23=>zd (za (zc .t3))<|zd (za (zc .t2))<|zd (za (zc .t3))<|zd (za (zc .t3))<|z2<|ai 9 U (gu U)<|bI ?_
    exact ⟨(i23,i17,i19,i21),b7,aL,aE,trivial⟩
   ·refine qm (m:=f.vars.length) jw Yq U U U U U (by simp) (by simp) (by show (1:Int)*_≤_;omega) (by omega)<|fun i19=>z2<|aN 2 U<|qt (m:=f.vars.length) Z5 X8 U U U U U (by simp) (by simp) (by show (8:Int)*_≤_;omega) (by omega)<|fun i17=>z2<|ai 7 U (zz (cps:=[(0,[_,_,_]),(1,[_]),(2,[_]),(3,[_])]) (rs:=[_,_,_,_,_,_,.n,.int .i64 0,.int .i64 0,.int .i64 0,.int .i64 0,.int .i64 0,.n,.int .i64 0,.int .i64 0,.int .i64 0,.int .i64 0,.int .i64 0,.int .i64 0,.int .i64 0,.int .i64 0,.int .i64 0,.bool false]) CL U U U)<|aN 8 U<|yl (cs:=_) U U U U<|fun i23=>z2<|ai 9 U (gu U)<|bI ?_
    exact ⟨(i23,i17,i19,i21),b7,aL,aE,trivial⟩
 ·rintro ⟨i23,i17,i19,i21⟩ _
  refine ae<|bb U<|ax U<|z8 (zh jf U Yb (by decide) U U)<|z8 (zh Zk U sizeOf93 (by decide) U U)<|yn (l:=[_]) (new:=[_,_,_,_,_,_,_,_,_,_,_,_,_,_,_,_,_,_,_,_,_,_,_]) sizeOf93 U U U U U U .head U U<|z2<|fW (off:=6) (k:=1) (T:=66) (fun _=>.head) U<|fun jo=>fW (off:=12) (k:=1) (T:=2) (fun _=>.t1) U<|fun jt=>y7 aR.bagNew<|y7 (za (zc .head))<|y7 (za (zc .t1))<|y7 (za (zc .t2))<|y7 (za (zc .t6))<|y7 (za (zc .t6))<|y7 (za (zc .t6))<|y7 (za (zc .t6))<|zb<|ae<|bb U<|ax U<|z8 (zh jf U jh (by decide) U U)<|z8 (zq (c:=.own _ _) jx U ⟨_,.head⟩ U)<|z8 (qp j7 U)<|aa U<|z2<|zi<|y5 (γ:=Nat) [2,3,6,32] (fun k=>[(33,.i k)]) (fun k=>wO f i23 i17 i19 i21 jo jt [] (Hi (List.replicate f.vars.length 0) (List.replicate f.vars.length false) (mO f.vars.length k) [])) (fun k=>k≤f.vars.length) (fun k=>f.vars.length - k) 0 aL ⟨_,(.refl _),by rw[Hg];rfl⟩ (w2 _) ?_
  rintro k hk
  refine ae<|ap U U<|z2<|zb<|zn U (fun ck=>?_) (fun ck=>?_)
  ·have hk2:k<f.vars.length:=by simp at ck;omega
   refine zf<|zb<|zi<|ae<|aa U<|am U<|z2<|aW<|bb U<|ax U<|z8 (zh jf U jh (by decide) U U)<|z8 (zq (c:=.own _ _) jx U ⟨_,.head⟩ U)<|aa U<|z8 (yd (j:=k) j7 j9 U U U ⟨_,.t3⟩ ((aF _).trans (uf hk)) hk2)<|q5 (j:=k) j9 U U .t3 (by rw[uf hk];exact hk2)<|z2<|aW<|aC U U<|aa U<|z2 ?_
   exact ⟨k+1,fC,aL,⟨_,(.refl _),by rw[←CM hk2]⟩,hk2,by omega⟩
  ·obtain rfl:k=f.vars.length:=by simp at ck;omega
   rw[Hh]
   refine y4<|zb<|ae<|ak Yp U sizeOf27 U U<|aI isAgg27 U<|aj Xb U<|aa U<|z2<|zi<|y5 (γ:=Nat) [2,3,6,44,45] (fun k=>[(46,.i k)]) (fun k=>wO f i23 i17 i19 i21 jo jt [] (Hi (d7 (tR f) 0 f.vars.length (i.args.take k)) (d7 (tS f) false f.vars.length (i.args.take k)) (d7 (sy f) (-1) f.vars.length (i.args.take k)) [])) (fun k=>k≤i.args.length) (fun k=>i.args.length - k) 0 aL ⟨_,(.refl _),by rw[Af,Af,Af]⟩ (w2 _) ?_
   rintro k hk
   refine ae<|ap U U<|z2<|zb<|zn U (fun ck=>?_) (fun ck=>?_)
   ·have hk2:k<i.args.length:=by simp at ck;omega
    obtain ⟨a,hea⟩:∃a,i.args[k]=a:=⟨_,rfl⟩
    have hag:i.args[k]?=some a:=by rw[qx hk2,hea]
    obtain ⟨v,hev⟩:∃v,f.vars[k]?=some v:=⟨_,qx (by omega)⟩
    have hty:mD f k=v.ty:=by unfold mD;rw[hev];rfl
    have sI:=nH (g:=tR f) (d:=0) hk2 ha
    have sB:=nH (g:=tS f) (d:=false) hk2 ha
    have sA:=nH (g:=sy f) (d:=-1) hk2 ha
    have kI:=oC (g:=tR f) (d:=0) hk2 ha
    have kB:=oC (g:=tS f) (d:=false) hk2 ha
    have kA:=oC (g:=sy f) (d:=-1) hk2 ha
    rw[hea] at sI sB sA kI kB kA
    refine zf<|zb<|zi<|ae<|aa U<|z8 (bB k Xb sizeOf68 U U U hag)<|ac isAgg68 sizeOf68 U U<|zu (cs:=[.int .i64 0,.bool false,.int .i64 0]) zeroValue68 U U<|fun i9=>am U<|zj sizeOf68 U U U U U U .head U<|zd (y8 (t:=9) U .head)<|z2<|ae<|ak je U Zn U U<|aI Zz U<|aa U<|z8 (bB k Z7 Yf U U U hev)<|ak Zt U X9 U U<|aA Xj U<|z2<|zi<|ae<|ao U U<|ad U<|z2<|zn U (fun c0=>?_) (fun c0=>?_)
    ·have c0:mD f k=0:=hty.trans (by simpa using c0)
     rw[show tR f k a=a.int by unfold tR;rw[if_pos c0]] at sI
     have eB:=kB (by unfold tS;rw[if_pos c0])
     have eA:=kA (by unfold sy;rw[if_pos c0])
     refine zr (fun j=>Nat.beq j 8) (by kernel_rfl) U (zo (.r (.rest _)))<|ai 0 U (dR U)<|ai 1 U (zy U)<|ai 2 U (zh jf U Zx (by decide) U U)<|ai 3 U (zq (c:=.own _ _) Ye U ⟨_,.head⟩ U)<|ai 4 U (dx U)<|ai 5 U (db Xi U Z1 U U)<|ai 6 U (dQ Zc U)<|aN 7 U<|z8 (yd (j:=k) Z5 Z1 U U U ⟨_,.head⟩ ((aF _).trans (gA ha k)) (by omega))<|z2<|yc<|yk (i:=8) U (by kernel_rfl) (by kernel_rfl)<|q5 (j:=k) Z1 U U .t1 (by rw[gA ha];omega)<|z2<|yf (by kernel_rfl)<|aW<|aC U U<|aa U<|z2 ?_
     exact ⟨k+1,mI,aL,⟨_,(.refl _),by rw[←sI,←eB,←eA]⟩,hk2,by omega⟩
    ·have c0:¬mD f k=0:=fun h=>c0 (by rw[hty] at h;simpa using h)
     have eI:=kI (by unfold tR;rw[if_neg c0])
     refine ae<|ao U U<|ad U<|z2<|zn U (fun c1=>?_) (fun c1=>?_)
     ·have c1:mD f k=1:=hty.trans (by simpa using c1)
      rw[show tS f k a=a.b by unfold tS;rw[if_neg c0,if_pos c1]] at sB
      have eA:=kA (by unfold sy;rw[if_neg c0,if_pos c1])
      refine zr (fun j=>Nat.beq j 8) (by kernel_rfl) U (zo (.r (.rest _)))<|ai 0 U (dR U)<|ai 1 U (zy U)<|ai 2 U (zh jf U Yg (by decide) U U)<|ai 3 U (zq (c:=.own _ _) Yu U ⟨_,.head⟩ U)<|ai 4 U (dx U)<|ai 5 U (db Xi U Zb U U)<|ai 6 U (qe (c:=.bool _) Yn U)<|aN 7 U<|z8 (yd (j:=k) jw Zb U U U ⟨_,.t1⟩ ((aM _).trans (gA ha k)) (by omega))<|z2<|yc<|yk (i:=8) U (by kernel_rfl) (by kernel_rfl)<|q6 (j:=k) Zb U U .t2 (by rw[gA ha];omega)<|z2<|yf (by kernel_rfl)<|aW<|aC U U<|aa U<|z2 ?_
      exact ⟨k+1,mI,aL,⟨_,(.refl _),by rw[←sB,←eI,←eA]⟩,hk2,by omega⟩
     ·have c1:¬mD f k=1:=fun h=>c1 (by rw[hty] at h;simpa using h)
      rw[show sy f k a=a.arr by unfold sy;rw[if_neg c0,if_neg c1]] at sA
      have eB:=kB (by unfold tS;rw[if_neg c0,if_neg c1])
      refine zr (fun j=>Nat.beq j 8) (by kernel_rfl) U (zo (.r (.rest _)))<|ai 0 U (dR U)<|ai 1 U (zy U)<|ai 2 U (zh jf U jh (by decide) U U)<|ai 3 U (zq (c:=.own _ _) jx U ⟨_,.head⟩ U)<|ai 4 U (dx U)<|ai 5 U (db Xi U j9 U U)<|ai 6 U (dQ jg U)<|aN 7 U<|z8 (yd (j:=k) j7 j9 U U U ⟨_,.t2⟩ ((aF _).trans (gA ha k)) (by omega))<|z2<|yc<|yk (i:=8) U (by kernel_rfl) (by kernel_rfl)<|q5 (j:=k) j9 U U .t3 (by rw[gA ha];omega)<|z2<|yf (by kernel_rfl)<|aW<|aC U U<|aa U<|z2 ?_
      exact ⟨k+1,mI,aL,⟨_,(.refl _),by rw[←sA,←eI,←eB]⟩,hk2,by omega⟩
   ·obtain rfl:k=i.args.length:=by simp at ck;omega
    rw[w4]
    refine y4<|zb<|ae<|ak Yp U Yh U U<|aI X3 U<|aj Zm U<|aa U<|z2<|zi<|y5 (γ:=Nat × Nat × List Nat) [6,87,88] (fun g=>[(89,.i g.1)]) (fun g=>wO f i23 i17 i19 i21 g.2.1 jt g.2.2 (Hi (d7 (tR f) 0 f.vars.length i.args) (d7 (tS f) false f.vars.length i.args) (d7 (sy f) (-1) f.vars.length i.args) (i.arrays.take g.1))) (fun g=>g.1≤i.arrays.length∧g.2.2.length=(i.arrays.take g.1).length) (fun g=>i.arrays.length - g.1) (0,jo,[]) aL aE (⟨w2 _,U⟩) ?_
    rintro ⟨k,jo,ids⟩ ⟨hk,hids⟩
    try dsimp only at *
    refine ae<|ap U U<|z2<|zb<|zn U (fun ck=>?_) (fun ck=>?_)
    ·have hk2:k<i.arrays.length:=by simp at ck;omega
     obtain ⟨r,her⟩:∃r,i.arrays[k]=r:=⟨_,rfl⟩
     have hrg:i.arrays[k]?=some r:=by rw[qx hk2,her]
     have hrl:=hr r (w9 hrg)
     have hts:i.arrays.take (k+1)=i.arrays.take k++[r]:=by rw[qy hk2,her]
     have htl:(i.arrays.take k).length=k:=by rw[wd];omega
     refine zf<|zb<|zi<|ae<|z8 (bB k Zm Zx U U U hrg)<|aI Ye U<|z8 (oA U)<|z2<|zr (fun j=>Nat.beq j 12) (by kernel_rfl) U (zo (.r (.rest _)))<|ai 0 U (dR U)<|ai 1 U (dR U)<|ai 2 U (zy U)<|ai 3 U (zh jf U Yh (by decide) U U)<|ai 4 U (zq (c:=.own _ _) X3 U ⟨_,.head⟩ U)<|ai 6 U (vZ U)<|aN 5 U<|yi (k:=1) Z5 X8<|fun i98=>z2<|aN 7 U<|yg (k:=1) Z5 X8 U U U U U (fun _=>.head) U (by decide) (by rw[Ex];exact bX r) (by show (_+_)*8≤_;simp;omega) (by simp;omega)<|fun i100=>z2<|aN 8 U<|zx (rows:=[[_]]) G6 U U U U U<|z2<|aN 9 U<|yg (k:=1) Zm type66 U U U U U (fun _=>.t4) (by show _=(i.arrays.take k).length*1;rw[jI hids];omega) (by decide) U (by show ((i.arrays.take k).length+1)*24≤_;omega) (by show (i.arrays.take k).length+1≤_;omega)<|fun i102=>z2<|yv (i:=10) U (by kernel_rfl) (by kernel_rfl) (by kernel_rfl) (by kernel_rfl) (zy U)<|ai 11 U (zh jf U Yh (by decide) U U)<|yc<|yk (i:=12) U (by kernel_rfl) (by kernel_rfl)<|yn (l:=[_]) (new:=[_,_,_,_,_,_,_,_,_,_,_,_,_,_,_,_,_,_,_,_,_,_,_]) Yh U U U U U U .head U U<|z2<|yf (by kernel_rfl)<|y7 (aR.bagIn (X':=tf (ids++[i100]) (i.arrays.take k++[r])) .t1 ((by rw[List.nil_append,Ex];exact zW i100 r hids)) .t6)<|aW<|aC U U<|aa U ?_
     refine z2 ?_
     exact ⟨(k+1,i102,ids++[i100]),bW,aL,⟨_,(.refl _),by dsimp only;rw[hts];exact Hj f i23 i17 i19 i21 i102 jt (s:=Hi (d7 (tR f) 0 f.vars.length i.args) (d7 (tS f) false f.vars.length i.args) (d7 (sy f) (-1) f.vars.length i.args) (i.arrays.take k)) hids i100 r _ (by simp)⟩,⟨hk2,by dsimp only;rw[hts];simp[hids]⟩,by dsimp only;omega⟩
    ·obtain rfl:k=i.arrays.length:=by simp at ck;omega
     rw[w4] at hids
     rw[w4]
     refine y4<|ae<|bb U<|z8 (gu U)<|z2<|zg<|zm (x:=.po _ _) U ?_
     exact ⟨i23,i17,i19,i21,jo,jt,ids,hids,rfl,rfl⟩
end
section
open Go.Proofs.Tryz
open Go.Proofs
def x0 (x:aB):Int:=(x.args[0]?).getD 0
def x1 (x:aB):Int:=(x.args[1]?).getD 0
def n0 (f:ab):Int:=f.vars.length
end
section
open Go.Proofs.Tryz
open Go.Proofs
section
variable {g:ab} {s:GS} {l:List bh}
end
end
section
open Go.Proofs.Tryz
open Go.Proofs
section
variable {g:ab} (hR:bm g) {l:List bh}
include hR
end
end
section
open Go.Proofs.Tryz
open Go.Proofs
theorem Ag {g:ab} {l:List bh} (ho:∀u:Int,0≤u→cO (lv l u)) (h:∀v:Nat,v<g.vars.length→m0 (if 0≤(aD g (v:Int)).1 then l5 g (nu g) l v else nv g v) (lv l v)):kh g l:=by
 refine ⟨ho,fun v h0 h1 hm=>?_,fun v h0 h1 hm=>?_⟩
 ·have:=h v.toNat (by omega)
  rw[show ((v.toNat:Nat):Int)=v by omega,if_pos hm] at this
  exact this
 ·have:=h v.toNat (by omega)
  rw[show ((v.toNat:Nat):Int)=v by omega,if_neg (by omega)] at this
  exact this
end
section
open Go.Proofs.Tryz
open Go.Proofs
section
variable {f:ab} (hR:bm f)
include hR
theorem ug:f.params.length≤f.vars.length:=by
 have h1:=hR.hS.1
 unfold nU at h1
 simp only[Bool.or_eq_false_iff,decide_eq_false_iff_not] at h1
 omega
theorem Jk (j:Nat):0≤mD f j∧mD f j≤2:=by
 unfold mD
 by_cases h:j<f.vars.length
 ·rw[qx h]
  have:=hR.hS.2.2.1 j h
  exact ⟨this.2.1,this.2.2.1⟩
 ·rw[List.getElem?_eq_none (by omega)]
  exact ⟨Int.le_refl _,by decide⟩
theorem CN (hPi:mf f) {i:uL} (hi:ec f i=0) (h64:Bj i) (n:Nat) {l:List bh} (hS:kh f l) (hl:l.length=f.vars.length):uS f i n l=true:=
 Gu hR hS hPi (ug hR) (Jk hR) hi h64 hl n
variable (hpl:∀b∈f.blocks,∀y∈b.insts,y.op<25)
include hpl
end
end
end Go.Proofs.YtbbonnfjealmpaaGreatDoor
