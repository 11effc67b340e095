/- The numbers of the checks; does none of them fail in a run? Of plain programs that are little. -/
import Derived.Test.YtdilpodccjlkgaaGreatDoorLt
import Derived.Test.YtdilpodccjlkgaaGreatDoorLp
import Derived.Test.YtdilpodccjlkgaaGreatDoorLq
import Derived.Test.YtdilpodccjlkgaaGreatDoorLr
import Derived.Test.YtdilpodccjlkgaaGreatDoorLm
import Derived.Test.YtdilpodccjlkgaaGreatDoorLh
import Derived.Test.YtdilpodccjlkgaaGreatDoorLc
import Derived.Test.YtdilpodccjlkgaaGreatDoorLs
import Derived.Test.YtdilpodccjlkgaaGreatDoorLd
import Derived.Test.YtdilpodccjlkgaaGreatDoorLe
set_option linter.unusedVariables false
set_option linter.unusedSimpArgs false
set_option linter.unusedSectionVars false
namespace Go.Proofs.YtdilpodccjlkgaaGreatDoor
open Go.Proofs.Tryz
open Go.Proofs Go.Lib Go.Shelf Go.RowKit
variable {E:World}
set_option maxRecDepth 20000
theorem oJ (op:Int):aI prog E 19 [.int .i64 op] (.bool (decide (18≤op)&&decide (op≤24))):=by
 refine zo func19 Z (by decide) Z<|ah<|ab Z<|z6<|ah<|aa Z<|za (q3 Z Z)<|ai Z<|zp (s:=5) Z (fun c1=>?_) (fun c1=>?_)
 ·refine z8 Z Z c1<|aa Z<|z8 Z Z c1<|za (Gv.leq Z Z)<|ar Z c1 Z<|ab Z<|z6<|zh<|zk (x:=.bool _) Z ?_
  exact jb (by simp_all<;>omega)
 ·refine z7 Z Z c1<|z7 Z Z c1<|au Z c1 Z<|ab Z<|z6<|zh<|zk (x:=.bool _) Z ?_
  exact jb (by simp_all<;>omega)
end Go.Proofs.YtdilpodccjlkgaaGreatDoor
namespace Go.Proofs.YtdilpodccjlkgaaGreatDoor
open Go.Proofs.Tryz
open Go.Proofs Go.Lib Go.Shelf Go.RowKit
variable {E:World}
set_option maxRecDepth 20000
theorem xy (f:ad) {i:Nat} (hi:i<f.blocks.length):(my f)[i]?=some (dD (ae f) f.blocks.length i):=by
 unfold my
 rw[eh _ hi]
 congr 1
 unfold re dD
 rw[List.filter_map,List.map_map,List.filter_filter]
 have:((fun p:Int × Int=>p.2)∘fun b=>(gi (bd (ae f) f.blocks.length) b,b))=_root_.id:=rfl
 rw[this,List.map_id]
 refine List.filter_congr fun c _=>?_
 simp[Function.comp,Bool.and_comm]
theorem u5 (f:ad) (hE:bE f) (hn:f.blocks.length≤1000) {i:Nat} (hi:i<f.blocks.length) (hr:(i:Int)∈aA (ae f) f.blocks.length) (y:AV):aI prog E 74 [lA f (kx eI (my f)) y,.int .i64 i] (.fro 1 ((dD (ae f) f.blocks.length i).map cE)):=by
 have hlev:decide (gi (bC (ae f) f.blocks.length) (i:Int)≠-1)=true:=qv ((hE.grph.lev_mem _).2 hr)
 have hkl:(dD (ae f) f.blocks.length i).length≤1000:=by
  unfold dD
  exact Nat.le_trans (List.length_filter_le _ _) (by rw[bI];exact hn)
 have hget:((my f).map fun r=>[AV.fro 1 (r.map eI.row)])[i]?=some [.fro 1 ((dD (ae f) f.blocks.length i).map cE)]:=by rw[qq,xy f hi];rfl
 have hh:=lZ (E:=E) (bC (ae f) f.blocks.length) (i:Int) (.fro 1 ((bd (ae f) f.blocks.length).map cE)) (kx eI (my f)) y (by rw[hE.grph.lev.len];exact hn)
 unfold lA kx
 unfold kx at hh
 refine zo func74 Z (by decide) Z<|ah<|za (iR Z)<|z6<|zd<|ah<|za (ep Z)<|aa Z<|zf (hh) Z<|aD Z<|z6<|ye Z (by rw[hlev];rfl)<|zg<|ah<|za (ep Z)<|za (yf Z)<|aq Z4 Z Yv Z Z<|aH isAgg70 Z<|aa Z<|za (Gv.idxF (j:=i) jf j5 Z Z Z hget)<|aH j9 Z<|zf (sA _ hkl) Z<|za (oP Z)<|z6<|zh<|zk (x:=.fro _ _) Z ?_
 rfl
def Fg (f:ad) (K:KS) (i:Int):Prop:=(K.p.length:Int)≤1100*gi (bC (ae f) f.blocks.length) i∧∀q∈K.p,q.2.length≤1000
theorem Er {f:ad} {K:KS} {x:aB} (hx:x.args.length≤1000) (h:∀q∈K.p,q.2.length≤1000):(dP f K x).p.length≤K.p.length+1∧(∀q∈(dP f K x).p,q.2.length≤1000)∧∃l,(dP f K x).p=K.p++l:=by
 unfold dP
 split
 ·rw[BX]
  refine ⟨by simp,fun q hq=>?_,_,rfl⟩
  rcases List.mem_append.1 hq with hq|hq
  ·exact h q hq
  ·rw[List.mem_singleton.1 hq];exact hx
 ·rw[vM];exact ⟨by omega,h,[],by simp⟩
theorem u6 {f:ad}:∀(l:List aB) (K:KS),(∀x∈l,x.args.length≤1000)→(∀q∈K.p,q.2.length≤1000)→(l.foldl (dP f) K).p.length≤K.p.length+l.length∧(∀q∈(l.foldl (dP f) K).p,q.2.length≤1000)∧∃m,(l.foldl (dP f) K).p=K.p++m
 |[],K,_,h=>⟨by simp,h,[],by simp⟩
 |x::l,K,hx,h=>by
  obtain ⟨h1,h2,m1,h3⟩:=Er (f:=f) (hx x (.head _)) h
  obtain ⟨g1,g2,m2,g3⟩:=u6 l (dP f K x) (fun y hy=>hx y (.tail _ hy)) h2
  rw[List.foldl_cons]
  exact ⟨by rw[List.length_cons];omega,g2,m1++m2,by rw[g3,h3,qk]⟩
theorem cM (K:KS) (a b c:Int):∃l,(dQ K a b c).l=K.l++l:=by unfold dQ;split;exact ⟨_,rfl⟩;exact ⟨[],by simp⟩
theorem ei {K L:KS} {M:List fw} (h:∃l,K.l=M++l) (g:∃l,L.l=K.l++l):∃l,L.l=M++l:=by
 obtain ⟨l,h⟩:=h;obtain ⟨m,g⟩:=g;exact ⟨l++m,by rw[g,h,qk]⟩
theorem ic (K:KS) (a b:Int) (o:Option Int):∃l,(addO K a b o).l=K.l++l:=by cases o with|none=>exact ⟨[],by simp[addO]⟩|some c=>exact cM K a b c
theorem mg (K:KS) (a b:Int):∃l,(hU K a b).l=K.l++l:=ei (cM _ _ _ _) (cM _ _ _ _)
theorem ie (K:KS):∃l,K.l=K.l++l:=⟨[],by simp⟩
theorem Ce {f:ad} (K:KS) (x:aB):∃l,(dP f K x).l=K.l++l:=by
 have hp:∀p,∃l,(⟨K.l,p⟩:KS).l=K.l++l:=fun p=>⟨[],by simp⟩
 have hA:∃l,(eC f K x).l=K.l++l:=by
  unfold eC;split
  ·exact ei (cM _ _ _ _) (cM _ _ _ _)
  ·exact ie K
 unfold dP
 split
 ·unfold kE
  repeat' split
  ·exact ei (ei (hp _) (cM _ _ _ _)) (cM _ _ _ _)
  ·exact ei (ei (hp _) (cM _ _ _ _)) (cM _ _ _ _)
  ·exact ei (hp _) (cM _ _ _ _)
  ·exact ei (hp _) (cM _ _ _ _)
  ·exact hp _
  ·exact hp _
 ·unfold mA
  split
  ·exact ei (cM _ _ _ _) (cM _ _ _ _)
  split
  ·exact mg _ _ _
  split
  ·exact mg _ _ _
  split
  ·unfold mV
   split
   ·exact ie K
   split
   ·exact ei (ic _ _ _ _) (ic _ _ _ _)
   ·exact ei (ei (ei (ic _ _ _ _) (ic _ _ _ _)) (ic _ _ _ _)) (ic _ _ _ _)
  split
  ·unfold jP
   split
   ·exact ei hA (cM _ _ _ _)
   ·exact hA
  ·exact ie K
theorem tC {f:ad}:∀(l:List aB) (K:KS),∃m,(l.foldl (dP f) K).l=K.l++m
 |[],K=>ie K
 |x::l,K=>ei (Ce K x) (tC l (dP f K x))
theorem tD:∀(l:List xe) (K:KS),∃m,(l.foldl gz K).l=K.l++m
 |[],K=>ie K
 |r::l,K=>ei (by
   unfold gz
   repeat' split
   ·exact cM _ _ _ _
   ·exact cM _ _ _ _
   ·exact mg _ _ _
   ·exact ie K) (tD l (gz K r))
theorem xz {f:ad} {K:KS} {t pr a9 a10:AV} {iw js jl jm jp:Nat} {M:List Int} (hR:b8 f) (hv:f.vars.length≤1000) (hK:KB f K) (bk:Nat) {v:Int} (hvv:aT f v=true) :
  aU prog E 73 [.po iw 0,.int .i64 v,cT bk] (gR f t pr a9 a10 iw js jl jm jp K M++[(0,hZ bk (mI []))]) (fun y O'=>∃O'',(∃es,y=.int .i64 (dK f K v)∧O''=[(0,hZ bk (mI es))])∧O'=gR f t pr a9 a10 iw js jl jm jp K M++O''):=by
 refine aU.lendTo (Q:=fun y O=>∃es,y=.int .i64 (dK f K v)∧O=[(0,hZ bk (mI es))]) Ac (fun I J y O v h hv=>?_) (fun I J y O B h hB=>?_) ((vY f hR hv K hK t pr bk 100000 [] v hvv (hR.rk_low v) (AW.emp f K)).mono fun y O ⟨es,h1,h2,_⟩=>⟨es,h1,h2⟩)
 ·obtain ⟨es,rfl,_⟩:=h
  exact hv
 ·obtain ⟨es,_,rfl⟩:=h
  exact Ab hB
structure EF (f:ad) (E:World):Prop where
 hf:small f
 hL:bn E
 hR:b8 f
 ht:bc f=true
 hs:cQ f=true
def AX (f:ad) (iw js bm jd jl jm jp:Nat) (K:KS) (M:List Int) (T:List (f7 × Int)) (D:List Int):OL:=[(iw,.cells 75 (kF f (gx f) (rB f) js jp K.p.length (cT bm) (.own jd f.blocks.length))),(js,.cells 136 [.int .i64 ((f.vars.length+1:Nat):Int),.own jl K.l.length,.own jm M.length]),(jl,.grow 3 180 (K.l.map bM).flatten),(jm,.grow 1 3 (cI M)),(jp,.grow 2 187 (K.p.map bO).flatten),(0,iQ me bm T),(jd,.grow 1 3 (cI D))]
def AF (E:World) (f:ad) (iw js bm jd:Nat) (m:Nat):Prop:=
 ∀(i:Nat) (b:aN) (V:Int→Bool) (jl jm jp:Nat) (K:KS) (M:List Int) (T:List (f7 × Int)),f.blocks[i]?=some b→(f.blocks.length:Int) - gi (bC (ae f) f.blocks.length) i<m→Dq f V i→K=uF f (BM f i).tail→KB f K→Fg f K i→(M.length:Int)≤gi (bC (ae f) f.blocks.length) i→fW f (fun m=>V m.1) T →
  aU prog E 38 [.po iw 0,.int .i64 i] (AX f iw js bm jd jl jm jp K M T (fe f V)) (fun y O=>∃g:Nat × Nat × Nat × List (f7 × Int),y=.tup []∧O=AX f iw js bm jd g.1 g.2.1 g.2.2.1 K M g.2.2.2 (fe f fun j=>V j||fj (ae f) f.blocks.length i j)∧fW f (fun m=>V m.1||fj (ae f) f.blocks.length i m.1) g.2.2.2)
theorem tE (f:ad) (hR:b8 f) (iw js bm jd:Nat):AF E f iw js bm jd 0:=by
 intro i b V jl jm jp K M T hb hm _ _ _ _ _ _
 have:=hR.lev (i:=i) (List.getElem?_eq_some_iff.1 hb).1
 omega
set_option maxHeartbeats 32000000 in
theorem tF (f:ad) (hA:EF f E) (iw js bm jd mm:Nat) (ih:AF E f iw js bm jd mm):AF E f iw js bm jd (mm+1):=by
 intro i b V jl jm jp K M T hb hm hV hKw hKB hPB hML hT
 obtain ⟨hf,hL,hR,ht,hs⟩:=hA
 have hi:=(List.getElem?_eq_some_iff.1 hb).1
 have hE:=hR.hE
 have hG:=hE.grph
 have hall:∀j:Int,0≤j→j<f.blocks.length→j∈aA (ae f) f.blocks.length:=fun j h0 h1=>hR.memO ⟨h0,h1⟩
 have ho:=hall i (by omega) (by omega)
 have hlv:=hR.lev hi
 have hnb:=hR.nblk
 have hVi:V (i:Int)=false:=hV.2 i (.refl (hR.hs.2.1 i hi))
 have hbm:=qs hb
 have hbe:f.blocks[i]=b:=(List.getElem?_eq_some_iff.1 hb).2
 have hbg:=gB hb
 have hvars:=hf.1
 obtain ⟨hf1,hf2,hf3,hf4,hf5⟩:=id hf
 obtain ⟨hb0,hb1,hb2,hb3,hb4⟩:=hf5 b hbm
 have hsm:=gH _ _ hbm
 have hsh:=hR.hS.2.2.2.2.1
 have hInF:=hR.blkF (i:=(i:Int)) (by omega) (by omega)
 rw[hbg] at hInF
 have hKl:=hKB.len
 obtain ⟨K0,hK0⟩:∃K0,mB f K i=K0:=⟨_,rfl⟩
 have hK0B:KB f K0:=hK0▸hKB.entr hR i
 have hK0p:K0.p=K.p:=by rw[←hK0];exact rA _ _
 have hbegK:jS f i=K0:=by unfold jS;rw[←hKw];exact hK0
 have hat:∀k,DI f (i:Int) k=(b.insts.take k).foldl (dP f) K0:=fun k=>by unfold DI;rw[hbg,←hKw,hK0]
 have hstB:∀k,KB f ((b.insts.take k).foldl (dP f) K0):=fun k=>KB.stps _ _ hK0B fun x hx=>hInF x (List.mem_of_mem_take hx)
 have hstP:∀k,ta ((b.insts.take k).foldl (dP f) K0).p:=fun k=>by
  obtain ⟨g1,g2,_⟩:=u6 (f:=f) (b.insts.take k) K0 (fun x hx=>hb4 x (List.mem_of_mem_take hx)) (by rw[hK0p];exact hPB.2)
  have h1:=hPB.1
  have h2:(b.insts.take k).length≤b.insts.length:=by rw[List.length_take];omega
  rw[hK0p] at g1
  exact ⟨by omega,g2⟩
 refine yz (γ:=Nat × Nat × Nat × List (f7 × Int)) (x:=fun _=>.tup []) (M:=fun g=>AX f iw js bm jd g.1 g.2.1 g.2.2.1 K M g.2.2.2 (fe f fun j=>V j||fj (ae f) f.blocks.length i j)) (p:=fun g=>fW f (fun m=>V m.1||fj (ae f) f.blocks.length i m.1) g.2.2.2) ?_
 have push:=uI (E:=E) js jl jm (f.vars.length+1) K.l M (by omega) (by omega)
 have rel:=fun jm M=>xt (E:=E) (t:=gx f) (a9:=cT bm) (a10:=.own jd f.blocks.length) (iw:=iw) (js:=js) (jl:=jl) (jm:=jm) (jp:=jp) (M:=M) hf hL hR ht hs hKB hi
 have made:=fun jl jm jp K M hK hP x hF hty=>uM (E:=E) (f:=f) (K:=K) (t:=gx f) (pr:=rB f) (a9:=cT bm) (a10:=.own jd f.blocks.length) (iw:=iw) (js:=js) (jl:=jl) (jm:=jm) (jp:=jp) (M:=M) hvars hK hP x hF hty
 have pass:=fun jl jm jp K M hK hP x hF hc=>uN (E:=E) (f:=f) (K:=K) (t:=gx f) (pr:=rB f) (a9:=cT bm) (a10:=.own jd f.blocks.length) (iw:=iw) (js:=js) (jl:=jl) (jm:=jm) (jp:=jp) (M:=M) hvars hK hP x hF hc
 have prv:=fun jl jm jp K M (hK:KB f K) (hP:ta K.p) x (hF:cW f x) (hc:18≤x.op∧x.op≤24)=>kp (a9:=cT bm) (a10:=.own jd f.blocks.length) (iw:=iw) (js:=js) (jl:=jl) (jm:=jm) (jp:=jp) (M:=M) (fun _ _ _ h=>gT h) (rj (E:=E) (t:=gx f) (pr:=rB f) hvars hK hP x hF hc)
 unfold AX
 unfold AF AX at ih
 unfold oS at push
 unfold gR at rel made pass prv
 refine zo func38 Z (by decide) Z<|ah<|aR Z<|az Z<|za (zn j7 Z Z2 (by decide) Z Z)<|za (zq (c:=.po _ _) Z9 Z ⟨_,.head⟩ Z)<|zr Z (zm (.r (.l (.l (.l (.r (.r (.r (.rest _))))))))) (push) ?_
 rintro r14 O14 ⟨jm1,rfl,rfl,_⟩
 refine z6<|zy (zb (zc .t6))<|zy (zb (zc .t6))<|zy (zb (zc .t6))<|zy (zb (zc .t5))<|zy (zb (zc .t5))<|zy (zb (zc .t5))<|zy (zb (zc .t6))<|ah<|aR Z<|az Z<|za (zn j7 Z sizeOf72 (by decide) Z Z)<|za (zq (c:=.own _ _) isAgg72 Z ⟨_,.head⟩ Z)<|za (Gv.lenO Yw Z)<|ao Z<|z6<|ah<|aR Z<|aa Z<|zr Z (zm (.l (.l (.l (.l (.l (.r (.r (.rest _))))))))) (rel jm1 (M++[(K.l.length:Int)])) ?_
 rintro r22 O22 ⟨jl1,rfl,rfl,_⟩
 refine z6 ?_
 rw[hK0]
 refine zy (zb (zc .t6))<|zy (zb (zc .t6))<|zy (zb (zc .t6))<|zy (zb (zc .t6))<|zy (zb (zc .t6))<|zy (zb (zc .t6))<|zy (zb (zc .t6))<|ah<|aR Z<|az Z<|za (zn j7 Z jh (by decide) Z Z)<|za (zn je Z Z0 (by decide) Z Z)<|za (zq (c:=.fro _ _) Zb Z ⟨_,.head⟩ Z)<|aa Z<|za (bx i ji ju Z Z Z hb)<|ac Y4 ju Z Z<|y5 (cs:=[.str ⟨#[]⟩,.raw (.slice none 0 0),.raw (.slice none 0 0),.int .i64 0,.int .i64 0,.int .i64 0,.int .i64 0]) Zc Z Z<|fun i5=>zz ju Z Z Z Z Z Z .head Z<|ze (yd (t:=5) Z .head)<|z6<|zd<|ah<|aq jg Z Zd Z Z<|aH Zs Z<|ap jt Z<|aa Z<|z6 ?_
 have hT0:fW f (Dk V i 0) T:=hT.congr fun m hm=>by
  unfold jT at hm
  rw[qx] at hm
  have h0:=qz hm.1
  unfold Dk
  rw[qw (show ¬m.2<((0:Nat):Int) by omega),Bool.and_false,Bool.or_false]
 obtain ⟨M1,hM1⟩:∃M1,M++[(K.l.length:Int)]=M1:=⟨_,rfl⟩
 have hM1l:(M1.length:Int)=M.length+1:=by rw[←hM1];simp
 rw[hM1]
 refine zj<|y8 (γ:=Nat × Nat × Nat × List (f7 × Int)) [0,1,4,5,32,33] (fun g=>[(34,.int .i64 g.1)]) (fun g=>[(iw,.cells 75 (kF f (gx f) (rB f) js g.2.2.1 ((b.insts.take g.1).foldl (dP f) K0).p.length (cT bm) (.own jd f.blocks.length))),(js,.cells 136 [.int .i64 ((f.vars.length+1:Nat):Int),.own g.2.1 ((b.insts.take g.1).foldl (dP f) K0).l.length,.own jm1 M1.length]),(g.2.1,.grow 3 180 (((b.insts.take g.1).foldl (dP f) K0).l.map bM).flatten),(jm1,.grow 1 3 (cI M1)),(g.2.2.1,.grow 2 187 (((b.insts.take g.1).foldl (dP f) K0).p.map bO).flatten),(0,iQ me bm g.2.2.2),(jd,.grow 1 3 (cI (fe f V)))]) (fun g=>g.1≤b.insts.length∧fW f (Dk V i g.1) g.2.2.2) (fun g=>b.insts.length - g.1) (0,jl1,jp,T) aJ aE (⟨ql _,hT0⟩) ?_
 rintro ⟨k,jq,jr,T1⟩ ⟨hk,hT1⟩
 try dsimp only at *
 obtain ⟨Q,hQ⟩:∃Q,(b.insts.take k).foldl (dP f) K0=Q:=⟨_,rfl⟩
 have hQB:=hstB k
 have hQP:=hstP k
 have hatk:=hat k
 rw[hQ] at hQB hQP hatk
 rw[hQ]
 refine ah<|aw Z Z<|z6<|zd<|zw Z (fun ck=>?_) (fun ck=>?_)
 ·have hk2:k<b.insts.length:=by simp at ck;omega
  obtain ⟨x,hx⟩:∃x,b.insts[k]?=some x:=⟨_,qi hk2⟩
  have hxm:=qs hx
  have hF:=hInF x hxm
  have hstep:(b.insts.take (k+1)).foldl (dP f) K0=dP f Q x:=by rw[List.take_add_one,hx,List.foldl_append,hQ];rfl
  have hpv:jT f ((i:Int),(k:Int))=(fd x&&lB f Q x):=by rw[tn hb hx,hatk]
  refine zg<|zd<|zj<|ah<|aa Z<|za (bx k jt jk Z Z Z hx)<|ac Zn jk Z Z<|y5 (cs:=[.int .i64 0,.int .i64 0,.raw (.slice none 0 0),.int .i64 0]) Z5 Z Z<|fun i7=>ao Z<|zz jk Z Z Z Z Z Z .head Z<|ze (yd (t:=7) Z .head)<|z6<|zd<|ah<|aq wy Z jv Z Z<|ay jy Z<|zf (oJ x.op) Z<|aD Z<|z6<|zu Z (fun c=>?_) (fun c=>?_)
  ·have c:¬(18≤x.op∧x.op≤24):=by simp at c;omega
   have hty:aT f x.dst=true∨¬x.op=1:=by
    by_cases e:x.op=1
    ·exact .inl (oD (hF.d e rfl))
    ·exact .inr e
   refine ah<|aR Z<|ac Zn jk Z Z<|zr Z (zm (.l (.l (.l (.l (.l (.r (.r (.rest _))))))))) (made jq jm1 jr Q M1 hQB hQP x hF hty) ?_
   rintro r45 O45 ⟨j1,rfl,rfl,_⟩
   refine z6<|zy (zb (zc .t6))<|zy (zb (zc .t6))<|zy (zb (zc .t6))<|zy (zb (zc .t6))<|zy (zb (zc .t6))<|zy (zb (zc .t6))<|zy (zb (zc .t6))<|y7<|aV<|aC Z Z<|aa Z<|z6 ?_
   exact ⟨(k+1,j1,jr,T1),AP,aJ,⟨_,(.refl _),by dsimp only;rw[hstep,dP,if_neg c]⟩,⟨hk2,hT1.skip (by rw[hpv,show fd x=false from qw c];rfl)⟩,by dsimp only;omega⟩
  ·have c:18≤x.op∧x.op≤24:=by simpa using c
   have hck:fd x=true:=qv c
   rw[hck,Bool.true_and] at hpv
   refine zg<|zd<|ah<|aR Z<|ac Zn jk Z Z<|zr Z (zm (.l (.l (.l (.l (.l (.r (.r (.rest _))))))))) (prv jq jm1 jr Q M1 hQB hQP x hF c) ?_
   rintro r48 O48 ⟨rfl,rfl⟩
   refine z6<|zy (zb (zc .t6))<|zy (zb (zc .t6))<|zy (zb (zc .t6))<|zy (zb (zc .t6))<|zy (zb (zc .t6))<|zy (zb (zc .t6))<|zy (zb (zc .t6))<|yg (γ:=List (f7 × Int)) [0,1,4,5,7,32,33,34] (fun g=>[]) (fun g=>[(iw,.cells 75 (kF f (gx f) (rB f) js jr Q.p.length (cT bm) (.own jd f.blocks.length))),(js,.cells 136 [.int .i64 ((f.vars.length+1:Nat):Int),.own jq Q.l.length,.own jm1 M1.length]),(jq,.grow 3 180 (Q.l.map bM).flatten),(jm1,.grow 1 3 (cI M1)),(jr,.grow 2 187 (Q.p.map bO).flatten),(0,iQ me bm g),(jd,.grow 1 3 (cI (fe f V)))]) (fun g=>fW f (Dk V i (k+1)) g) ?_ (fun _ _ h=>h) ?_
   ·refine zu Z (fun cp=>?_) (fun cp=>?_)
    ·refine aV<|aR Z<|az Z<|za (zn j7 Z sizeOf73 (by decide) Z Z)<|za (zq (c:=cT _) isAgg73 Z ⟨_,.head⟩ Z)<|aa Z<|aa Z<|za (y4 (cps:=[(0,[_]),(1,[_])]) (rs:=[_,_]) zN Z Z Z)<|ax.mapSetS (k:=((i:Int),(k:Int))) Ap underlying73 Z Z Z .t5<|z6 ?_
     exact ⟨bF T1 ((i:Int),(k:Int)) 1,(by repeat (first|with_reducible exact y6 _ _|refine yh rfl ?_)),trivial,aE,hT1.put hVi (hpv.trans cp)⟩
    ·refine zg ?_
     exact ⟨T1,(by repeat (first|with_reducible exact y6 _ _|refine yh rfl ?_)),trivial,aE,hT1.skip (hpv.trans cp)⟩
   ·rintro T2 hT2
    refine aV<|aR Z<|ac Zn jk Z Z<|zr Z (zm (.l (.l (.l (.l (.l (.r (.r (.rest _))))))))) (pass jq jm1 jr Q M1 hQB hQP x hF c) ?_
    rintro r58 O58 ⟨⟨j1,j2⟩,rfl,rfl,_⟩
    refine z6<|zy (zb (zc .t6))<|zy (zb (zc .t6))<|zy (zb (zc .t6))<|zy (zb (zc .t6))<|zy (zb (zc .t6))<|zy (zb (zc .t6))<|zy (zb (zc .t6))<|aV<|aC Z Z<|aa Z<|z6 ?_
    exact ⟨(k+1,j1,j2,T2),AP,aJ,⟨_,(.refl _),by dsimp only;rw[hstep,dP,if_pos c]⟩,⟨hk2,hT2⟩,by dsimp only;omega⟩
 ·obtain rfl:k=b.insts.length:=by simp at ck;omega
  have hQe:zX f (jS f i) i=Q:=by unfold zX;rw[hbegK,hbg,←hQ,qn]
  obtain ⟨p1,p2,pm,p3⟩:=u6 (f:=f) (b.insts.take b.insts.length) K0 (fun x hx=>hb4 x (List.mem_of_mem_take hx)) (by rw[hK0p];exact hPB.2)
  rw[hQ,hK0p] at p1 p3
  rw[hQ] at p2
  have hpre:∃l,Q.l=K.l++l:=ei (hK0▸tD _ K) (hQ▸tC _ K0)
  have hTl:=hT1.last hb
  have hv0:(fun m:f7=>V m.1||decide (m.1=(i:Int)))=fun m=>gC f V i [] m.1:=by funext m;unfold gC;simp
  rw[hv0] at hTl
  have hds:(fe f V).set i (mF f i)=fe f (gC f V i []):=Al hi (by unfold gC;simp) (fun j hj=>by unfold gC;simp[hj])
  refine y7<|zd<|ah<|aq jg Z Zm Z Z<|aq j8 Z Zv Z Z<|ay Y3 Z<|ak Z Z<|z6<|yg (γ:=Unit) [0,1,4] (fun u=>[]) (fun u=>[(iw,.cells 75 (kF f (gx f) (rB f) js jr Q.p.length (cT bm) (.own jd f.blocks.length))),(js,.cells 136 [.int .i64 ((f.vars.length+1:Nat):Int),.own jq Q.l.length,.own jm1 M1.length]),(jq,.grow 3 180 (Q.l.map bM).flatten),(jm1,.grow 1 3 (cI M1)),(jr,.grow 2 187 (Q.p.map bO).flatten),(0,iQ me bm T1),(jd,.grow 1 3 (cI (fe f (gC f V i []))))]) (fun u=>True) ?_ (fun _ _ h=>h) ?_
  ·refine zw Z (fun ct=>?_) (fun ct=>?_)
   ·have ct:b.term.kind=1:=ct
    have hvk:aT f b.term.var=true:=by
     have h1:=(hR.run.term _ hbm)
     unfold bv at h1
     rw[if_neg (by omega),if_pos ct] at h1
     simp only[qx] at h1
     exact h1.1.1
    have hdo:dK f Q b.term.var=mF f i:=by unfold mF;rw[hbg,if_pos ct,hQe];rfl
    have dec:=fun bk=>xz (E:=E) (t:=gx f) (pr:=rB f) (a9:=cT bm) (a10:=.own jd f.blocks.length) (iw:=iw) (js:=js) (jl:=jq) (jm:=jm1) (jp:=jr) (M:=M1) hR hvars hQB bk hvk
    unfold gR at dec
    rw[hdo] at dec
    refine zt (fun j=>Nat.beq j 12) (by kernel_rfl) Z (zm (.rest _))<|aj 0 Z (eF Z)<|aj 1 Z (yb Z)<|aj 2 Z (zn j7 Z j5 (by decide) Z Z)<|aj 4 Z (dF Z)<|aj 5 Z (eF Z)<|aj 6 Z (bK jg Z Zm Z Z)<|aj 7 Z (bK j8 Z wz Z Z)<|aj 8 Z (da j6 Z)<|yn (i:=3) (j:=9) Z Z (by kernel_rfl) ?_ ?_
    ·refine za (zq (c:=.own _ _) j9 Z ⟨_,.head⟩ Z)<|z6<|aY 9 Z<|ax.makeMapA<|fun b73=>ze (zb (zc .t5))<|ze (zb (zc .t5))<|ze (zb (zc .t5))<|ze (zb (zc .t5))<|ze (zb (zc .t5))<|z6<|aY 10 Z<|zr Z (zm (.l (.l (.l (.l (.l (.l (.r (.r (.rest _)))))))))) (dec b73) ?_
     rintro r74 O74 ⟨_,⟨es,rfl,rfl⟩,rfl⟩
     refine z6<|aY 11 Z<|za (yu (j:=i) wx wz Z Z Z ⟨_,.t7⟩ ((aQ _).trans (eE f V)) hi)<|z6<|ym<|yk (i:=12) Z (by kernel_rfl) (by kernel_rfl)<|ax.storeI (j:=i) wz Z Z .t7 (by rw[eE];exact hi)<|z6<|yq (by kernel_rfl) ?_
     exact ⟨(),(by repeat (first|with_reducible exact y6 _ _|refine yh rfl ?_)),trivial,⟨_,(.keep (.keep (.keep (.keep (.keep (.drop (.refl _))))))),by rw[hds]⟩,trivial⟩
    ·refine ax.makeMapA<|fun b73=>ze (zb (zc .t5))<|ze (zb (zc .t5))<|ze (zb (zc .t5))<|ze (zb (zc .t5))<|ze (zb (zc .t5))<|z6<|yn (i:=3) (j:=10) Z Z (by kernel_rfl) ?_ ?_
     ·refine za (zq (c:=.own _ _) j9 Z ⟨_,.head⟩ Z)<|z6<|aY 10 Z<|zr Z (zm (.l (.l (.l (.l (.l (.l (.r (.r (.rest _)))))))))) (dec b73) ?_
      rintro r74 O74 ⟨_,⟨es,rfl,rfl⟩,rfl⟩
      refine z6<|aY 11 Z<|za (yu (j:=i) wx wz Z Z Z ⟨_,.t7⟩ ((aQ _).trans (eE f V)) hi)<|z6<|ym<|yk (i:=12) Z (by kernel_rfl) (by kernel_rfl)<|ax.storeI (j:=i) wz Z Z .t7 (by rw[eE];exact hi)<|z6<|yq (by kernel_rfl) ?_
      exact ⟨(),(by repeat (first|with_reducible exact y6 _ _|refine yh rfl ?_)),trivial,⟨_,(.keep (.keep (.keep (.keep (.keep (.drop (.refl _))))))),by rw[hds]⟩,trivial⟩
     ·refine zr Z (zm (.l (.l (.l (.l (.l (.l (.r (.r (.rest _)))))))))) (dec b73) ?_
      rintro r74 O74 ⟨_,⟨es,rfl,rfl⟩,rfl⟩
      refine z6<|aY 3 Z<|za (zq (c:=.own _ _) j9 Z ⟨_,.head⟩ Z)<|z6<|aY 11 Z<|za (yu (j:=i) wx wz Z Z Z ⟨_,.t7⟩ ((aQ _).trans (eE f V)) hi)<|z6<|ym<|yk (i:=12) Z (by kernel_rfl) (by kernel_rfl)<|ax.storeI (j:=i) wz Z Z .t7 (by rw[eE];exact hi)<|z6<|yq (by kernel_rfl) ?_
      exact ⟨(),(by repeat (first|with_reducible exact y6 _ _|refine yh rfl ?_)),trivial,⟨_,(.keep (.keep (.keep (.keep (.keep (.drop (.refl _))))))),by rw[hds]⟩,trivial⟩
   ·have ct:¬b.term.kind=1:=ct
    have hdo:mF f i=0:=by unfold mF;rw[hbg,if_neg ct]
    have hsame:fe f V=fe f (gC f V i []):=by
     rw[←hds,hdo]
     refine List.ext_getElem? fun q=>?_
     by_cases e:i=q
     ·subst e
      rw[List.getElem?_set_self (by rw[eE];exact hi),lG hi,hVi];rfl
     ·rw[List.getElem?_set_ne e]
    refine zg ?_
    exact ⟨(),(by repeat (first|with_reducible exact y6 _ _|refine yh rfl ?_)),trivial,⟨_,(.refl _),by rw[hsame]⟩,trivial⟩
  ·rintro u _
   obtain ⟨kl,hkl⟩:∃kl,dD (ae f) f.blocks.length i=kl:=⟨_,rfl⟩
   have hkn2:kl.Nodup:=hkl▸uS (i:Int)
   have hkm:∀c∈kl,c∈dD (ae f) f.blocks.length i:=fun c hc=>by rw[hkl];exact hc
   have hkll:kl.length≤1000:=by
    rw[←hkl];unfold dD
    exact Nat.le_trans (List.length_filter_le _ _) (by rw[bI];exact hf3)
   have hkids:=u5 (E:=E) f hE hf3 hi ho .any
   rw[hkl] at hkids
   refine zd<|ah<|aR Z<|az Z<|za (zn j7 Z sizeOf68 (by decide) Z Z)<|za (zq (c:=.pf _) isAgg68 Z ⟨_,.head⟩ Z)<|aa Z<|zf (hkids) Z<|ap wx Z<|aa Z<|z6<|zj<|y8 (γ:=Nat × Nat × Nat × Nat × List (f7 × Int)) [0,4,81,82] (fun g=>[(83,.int .i64 g.1)]) (fun g=>[(iw,.cells 75 (kF f (gx f) (rB f) js g.2.2.2.1 Q.p.length (cT bm) (.own jd f.blocks.length))),(js,.cells 136 [.int .i64 ((f.vars.length+1:Nat):Int),.own g.2.1 Q.l.length,.own g.2.2.1 M1.length]),(g.2.1,.grow 3 180 (Q.l.map bM).flatten),(g.2.2.1,.grow 1 3 (cI M1)),(g.2.2.2.1,.grow 2 187 (Q.p.map bO).flatten),(0,iQ me bm g.2.2.2.2),(jd,.grow 1 3 (cI (fe f (gC f V i (kl.take g.1)))))]) (fun g=>g.1≤kl.length∧fW f (fun m=>gC f V i (kl.take g.1) m.1) g.2.2.2.2) (fun g=>kl.length - g.1) (0,jq,jm1,jr,T1) aJ aE (⟨ql _,hTl⟩) ?_
   rintro ⟨q,ja,jb,jc,T2⟩ ⟨hq,hT2⟩
   try dsimp only at *
   refine ah<|aw Z Z<|z6<|zd<|zw Z (fun cq=>?_) (fun cq=>?_)
   ·have hq2:q<kl.length:=by simp at cq;omega
    have hcm:=hkm _ (qm hq2)
    obtain ⟨⟨c0,c1⟩,cne,cnear⟩:=(oB hG hall (by omega)).1 hcm
    obtain ⟨cn,hcn⟩:∃cn:Nat,kl[q]=(cn:Int):=⟨kl[q].toNat,by omega⟩
    have hcl2:cn<f.blocks.length:=by omega
    obtain ⟨hk1,hk2,hk3,hk4⟩:=ku hG hall (by omega) hcm
    have hVc:=B6 hG hall (by omega) hV hq2 hkm hkn2
    rw[hcn] at hk1 hk4 hVc cnear cne
    have hway:Q=uF f (BM f cn).tail:=by rw[B7 hR ⟨by omega,by omega⟩ cne cnear,hQe]
    have hPBc:Fg f Q (cn:Int):=by
     have h1:=hPB.1
     rw[qn] at p1
     exact ⟨by rw[hk4];omega,p2⟩
    have hvn:(fun m:f7=>gC f V i (kl.take q) m.1||fj (ae f) f.blocks.length cn m.1)=fun m=>gC f V i (kl.take (q+1)) m.1:=by funext m;rw[←hcn];exact tm hq2 m.1
    have hvn2:(fun j:Int=>gC f V i (kl.take q) j||fj (ae f) f.blocks.length cn j)=gC f V i (kl.take (q+1)):=by funext j;rw[←hcn];exact tm hq2 j
    refine zg<|zd<|zj<|ah<|za (bx q wx wz Z Z Z (by rw[qi hq2,hcn])) ?_
    refine ay j6 Z<|ao Z<|z6<|aV<|aR Z<|aa Z<|zr Z (zm (.l (.l (.l (.l (.l (.l (.l (.rest _))))))))) (ih cn f.blocks[cn] (gC f V i (kl.take q)) ja jb jc Q M1 T2 (qi hcl2) (by omega) hVc hway hQB hPBc (by omega) hT2) ?_
    rintro r89 O89 ⟨⟨j1,j2,j3,T3⟩,rfl,rfl,h1⟩
    refine z6<|aV<|aC Z Z<|aa Z<|z6 ?_
    exact ⟨(q+1,j1,j2,j3,T3),iS,aJ,⟨_,(.refl _),by dsimp only;rw[hvn2,qu]⟩,⟨hq2,by rw[←hvn];exact h1⟩,by dsimp only;omega⟩
   ·obtain rfl:q=kl.length:=by simp at cq;omega
    rw[qn] at hT2
    rw[qn]
    obtain ⟨lq,hlq⟩:=hpre
    have htk:((Q.p.map bO).flatten).take (K.p.length*2)=(K.p.map bO).flatten:=by
     rw[p3,qt,List.flatten_append,List.take_append_of_le_length (by rw[nb];exact Nat.le_refl _),List.take_of_length_le (by rw[nb];exact Nat.le_refl _)]
    have hdec:fe f (gC f V i kl)=fe f fun j=>V j||fj (ae f) f.blocks.length i j:=uT fun j h0 h1=>by rw[←hkl];exact vP hG hall (by omega) h0 h1
    have hTf:fW f (fun m=>V m.1||fj (ae f) f.blocks.length i m.1) T2:=hT2.congr fun m hm=>by
     unfold jT at hm
     rw[qx] at hm
     have h0:=qz hm.1
     have h1:m.1<f.blocks.length:=Classical.byContradiction fun hn=>by
      have h2:=hm.2
      have h3:(iC f m.1).insts=[]:=by unfold iC;rw[List.getElem?_eq_none (by omega)];rfl
      rw[h3] at h2
      simp at h2
     rw[←hkl];exact vP hG hall (by omega) h0.1 h1
    have pop:=xf (E:=E) js ja jb (f.vars.length+1) Q.l M K.l.length (by rw[hlq,qo];omega) (by omega)
    rw[hM1] at pop
    have hlt:Q.l.take K.l.length=K.l:=by rw[hlq,List.take_left]
    rw[hlt] at pop
    unfold oS at pop
    refine y7<|ah<|aR Z<|aR Z<|az Z<|za (zn j7 Z sizeOf72 (by decide) Z Z)<|za (zq (c:=.own _ _) isAgg72 Z ⟨_,.head⟩ Z)<|aa Z<|ax.cutTo (j:=K.p.length) Yw sizeOf187 Z Z Z .t4 (by decide) (by rw[nb,p3,qo];omega)<|az Z<|za (zn j7 Z sizeOf72 (by decide) Z Z)<|yv (l:=[_]) (new:=[_,_,_,_,_,_,_,_,_,_,_]) sizeOf72 Z Z Z Z Z Z .head Z Z<|z6<|aV<|aR Z<|az Z<|za (zn j7 Z Z2 (by decide) Z Z)<|za (zq (c:=.po _ _) Z9 Z ⟨_,.head⟩ Z)<|zr Z (zm (.r (.l (.l (.l (.r (.r (.r (.rest _))))))))) (pop) ?_
    rintro r104 O104 ⟨rfl,rfl⟩
    refine z6<|yc (zb (zc .t6))<|yc (zb (zc .t6))<|yc (zb (zc .t6))<|yc (zb (zc .t5))<|yc (zb (zc .t5))<|yc (zb (zc .t5))<|yc (zb (zc .t6))<|yp ?_
    exact ⟨(ja,jb,jc,T2),rfl,⟨_,.refl _,by rw[htk,hdec];rfl⟩,hTf⟩
theorem oK (f:ad) (hA:EF f E) (iw js bm jd:Nat):∀m,AF E f iw js bm jd m
 |0=>tE f hA.hR iw js bm jd
 |m+1=>tF f hA iw js bm jd m (oK f hA iw js bm jd m)
end Go.Proofs.YtdilpodccjlkgaaGreatDoor
namespace Go.Proofs.YtdilpodccjlkgaaGreatDoor
open Go.Proofs.Tryz
open Go.Proofs Go.Lib Go.Shelf Go.RowKit
variable {E:World}
set_option maxRecDepth 20000
theorem Ds {f:ad} (K:KS) (v:Int):(gA f K v).p=K.p:=by
 unfold gA;repeat' split
 ·rw[bZ,bZ]
 ·exact kq ..
 ·rfl
theorem rD {f:ad}:∀(l:List Int) (K:KS),(l.foldl (gA f) K).p=K.p
 |[],_=>rfl
 |v::l,K=>by rw[List.foldl_cons,rD l,Ds]
theorem Dt {f:ad} {K:KS} (h:KB f K) {v:Int} (hv:aO f v):KB f (gA f K v):=by
 unfold gA
 split
 ·exact (h.add hv fv).add fv hv
 ·split
  ·exact h.both hv fv
  ·exact h
theorem AG {f:ad}:∀(l:List Int) (K:KS),KB f K→(∀v∈l,aO f v)→KB f (l.foldl (gA f) K)
 |[],_,h,_=>h
 |v::l,K,h,hl=>by rw[List.foldl_cons];exact AG l _ (Dt h (hl v (.head _))) fun u hu=>hl u (.tail _ hu)
set_option maxHeartbeats 4000000 in
theorem tG {f:ad} {t pr a9 a10:AV} {iw js jl jm jp:Nat} {M:List Int} (hf:small f) :
  aU prog E 37 [.po iw 0] (gR f t pr a9 a10 iw js jl jm jp ⟨[],[]⟩ M) (fun y O=>∃g:Nat,y=.tup []∧O=gR f t pr a9 a10 iw js g jm jp (dC f) M∧True):=by
 refine yz (γ:=Nat) (x:=fun g=>.tup []) (M:=fun g=>gR f t pr a9 a10 iw js g jm jp (dC f) M) (p:=fun _=>True) ?_
 have add:=fun jl K hK a b (ha:aO f a) (hb:aO f b) c=>gd (E:=E) (js:=js) (jm:=jm) (M:=M) jl K hK ha hb c
 have same:=fun jl K hK a b (ha:aO f a) (hb:aO f b)=>k5 (E:=E) (t:=t) (pr:=pr) (a9:=a9) (a10:=a10) (iw:=iw) (js:=js) (jm:=jm) (M:=M) jl jp 0 K hK ha hb
 have hvars:=hf.1
 have hf1:dC f=(bh f.vars.length).foldl (gA f) ⟨[],[]⟩:=rfl
 rw[hf1]
 unfold gR at *
 refine zo func37 Z (by decide) Z<|ah<|aR Z<|az Z<|za (zn j7 Z jh (by decide) Z Z)<|za (zn je Z Y5 (by decide) Z Z)<|za (zq (c:=.fro _ _) Yg Z ⟨_,.head⟩ Z)<|ap Z6 Z<|aa Z<|z6<|zj<|y8 (γ:=Nat × Nat) [0,8,9] (fun g=>[(10,.int .i64 g.1)]) (fun g=>[(iw,.cells 75 (kF f t pr js jp (⟨[],[]⟩:KS).p.length a9 a10)),(js,.cells 136 [.int .i64 ((f.vars.length+1:Nat):Int),.own g.2 (((bh f.vars.length).take g.1).foldl (gA f) ⟨[],[]⟩).l.length,.own jm M.length]),(g.2,.grow 3 180 ((((bh f.vars.length).take g.1).foldl (gA f) ⟨[],[]⟩).l.map bM).flatten),(jm,.grow 1 3 (cI M)),(jp,.grow 2 187 ((⟨[],[]⟩:KS).p.map bO).flatten)]) (fun g=>g.1≤f.vars.length) (fun g=>f.vars.length - g.1) (0,jl) aJ aE (ql _) ?_
 rintro ⟨v,jq⟩ hv
 try dsimp only at *
 have hKB:KB f (((bh f.vars.length).take v).foldl (gA f) ⟨[],[]⟩):=AG _ _ (KB.emp f) fun u hu=>by
  have:=cJ.1 (List.mem_of_mem_take hu)
  exact ⟨this.1,by omega⟩
 have hKp:=rD (f:=f) ((bh f.vars.length).take v) ⟨[],[]⟩
 refine ah<|aw Z Z<|z6<|zd<|zw Z (fun cv=>?_) (fun cv=>?_)
 ·have hv2:v<f.vars.length:=by simp at cv;omega
  have hvv:aT f (v:Int)=true:=by unfold aT;simp;omega
  have hvN:aO f (v:Int):=⟨by omega,by omega⟩
  have nn:aO f (dX f):=fv
  obtain ⟨vr,hx,hvt,hkt⟩:=jE hvv
  clear hvt
  rw[Int.toNat_natCast] at hx
  obtain ⟨_,hmk⟩:=fE hvv
  rw[Int.toNat_natCast] at hmk
  have hstep:((bh f.vars.length).take (v+1)).foldl (gA f) ⟨[],[]⟩=gA f (((bh f.vars.length).take v).foldl (gA f) ⟨[],[]⟩) (v:Int):=by rw[List.take_add_one,dO hv2,List.foldl_append];rfl
  obtain ⟨Q,hQ⟩:∃Q,((bh f.vars.length).take v).foldl (gA f) ⟨[],[]⟩=Q:=⟨_,rfl⟩
  rw[hQ] at hKB hKp hstep
  rw[hQ]
  refine zg<|zd<|zj<|ah<|aa Z<|za (bx v Z6 Y2 Z Z Z hx)<|ac isAgg61 Y2 Z Z<|y5 (cs:=[.str ⟨#[]⟩,.int .i64 0]) zeroValue61 Z Z<|fun i3=>ao Z<|zz Y2 Z Z Z Z Z Z .head Z<|ze (yd (t:=3) Z .head)<|z6<|zj<|ah<|aq Zf Z Yq Z Z<|ay isAgg59 Z<|ak Z Z<|ab Z<|z6<|zw Z (fun c2=>?_) (fun c2=>?_)
  ·have hre:gA f Q (v:Int)=dQ (dQ Q (v:Int) (dX f) 64) (dX f) (v:Int) 0:=by unfold gA;rw[if_pos (hkt.trans c2)]
   refine zd<|zt (fun j=>false) (by kernel_rfl) Z (zm (.r (.rest _)))<|aj 0 Z (eF Z)<|aj 1 Z (yb Z)<|aj 2 Z (zn j7 Z Z2 (by decide) Z Z)<|aj 3 Z (zq (c:=.po _ _) Z9 Z ⟨_,.head⟩ Z)<|aj 4 Z (dF Z)<|aj 5 Z (eF Z)<|aj 6 Z (yb Z)<|aj 7 Z (zn j7 Z wz (by decide) Z Z)<|aj 8 Z (zq (c:=.int _ _) j6 Z ⟨_,.head⟩ Z)<|aY 9 Z<|zr Z (zm (.l (.l (.l (.r (.rest _)))))) (add jq Q hKB _ _ hvN nn 64) ?_
   rintro r28 O28 ⟨⟨j1,u1⟩,rfl,rfl,_⟩
   refine z6<|bV<|zy (zb (zc .t4))<|zy (zb (zc .t4))<|zy (zb (zc .t4))<|zy (zb (zc .t4))<|zy (zb (zc .t4))<|zt (fun j=>false) (by kernel_rfl) Z (zm (.r (.rest _)))<|aj 0 Z (eF Z)<|aj 1 Z (yb Z)<|aj 2 Z (zn j7 Z Z2 (by decide) Z Z)<|aj 3 Z (zq (c:=.po _ _) Z9 Z ⟨_,.head⟩ Z)<|aj 4 Z (eF Z)<|aj 5 Z (yb Z)<|aj 6 Z (zn j7 Z wz (by decide) Z Z)<|aj 7 Z (zq (c:=.int _ _) j6 Z ⟨_,.head⟩ Z)<|aj 8 Z (dF Z)<|aY 9 Z<|zr Z (zm (.l (.l (.l (.r (.rest _)))))) (add j1 _ (hKB.add (c:=64) hvN nn) _ _ nn hvN 0) ?_
   rintro r38 O38 ⟨⟨j2,u2⟩,rfl,rfl,_⟩
   refine z6<|bV<|zy (zb (zc .t4))<|zy (zb (zc .t4))<|zy (zb (zc .t4))<|zy (zb (zc .t4))<|zy (zb (zc .t4))<|aV<|aC Z Z<|aa Z<|z6 ?_
   exact ⟨(v+1,j2),dy,aJ,⟨_,(.refl _),by rw[hstep,hre]⟩,hv2,by dsimp only;omega⟩
  ·have c2:¬bj f (v:Int)=2:=by rw[hkt];exact c2
   refine zd<|yg (γ:=Bool) [0,2,8,9,10] (fun u=>[(39,.bool u)]) (fun u=>[(iw,.cells 75 (kF f t pr js jp (⟨[],[]⟩:KS).p.length a9 a10)),(js,.cells 136 [.int .i64 ((f.vars.length+1:Nat):Int),.own jq Q.l.length,.own jm M.length]),(jq,.grow 3 180 (Q.l.map bM).flatten),(jm,.grow 1 3 (cI M)),(jp,.grow 2 187 ((⟨[],[]⟩:KS).p.map bO).flatten)]) (fun u=>u=decide (bj f (v:Int)=0∧(f.params.length:Int)≤(v:Int)∧(aF f (v:Int)).1<0)) ?_ (fun _ _ h=>h) ?_
   ·refine aV<|aq Zf Z Yq Z Z<|ay isAgg59 Z<|ak Z Z<|ai Z<|zp (s:=43) Z (fun c1=>?_) (fun c1=>?_)
    ·refine z8 Z Z c1<|aa Z<|z8 Z Z c1<|aR Z<|z8 Z Z c1<|az Z<|z8 Z Z c1<|za (zn j7 Z jh (by decide) Z Z)<|z8 Z Z c1<|za (zn je Z j5 (by decide) Z Z)<|z8 Z Z c1<|za (zq (c:=.fro _ _) j9 Z ⟨_,.head⟩ Z)<|z8 Z Z c1<|ap wx Z<|z8 Z Z c1<|za (q3 Z Z)<|ar Z c1 Z<|ai Z<|zp (s:=53) Z (fun c2=>?_) (fun c2=>?_)
     ·refine z8 Z Z c2<|aR Z<|z8 Z Z c2<|az Z<|z8 Z Z c2<|za (zn j7 Z Yb (by decide) Z Z)<|z8 Z Z c2<|za (zq (c:=.fro _ _) Ys Z ⟨_,.head⟩ Z)<|z8 Z Z c2<|aa Z<|z8 Z Z c2<|za (bx v Zl Ya Z Z Z hmk)<|z8 Z Z c2<|aq Zg Z wz Z Z<|z8 Z Z c2<|ay j6 Z<|z8 Z Z c2<|aw Z Z<|ar Z c2 Z<|ab Z<|z6 ?_
      exact ⟨_,(by repeat (first|with_reducible exact y6 _ _|refine yh rfl ?_)),aJ,aE,by rw[hkt];clear add same;simp_all<;>(intros;omega)⟩
     ·refine z7 Z Z c2<|z7 Z Z c2<|z7 Z Z c2<|z7 Z Z c2<|z7 Z Z c2<|z7 Z Z c2<|z7 Z Z c2<|z7 Z Z c2<|z7 Z Z c2<|au Z c2 Z<|ab Z<|z6 ?_
      exact ⟨_,(by repeat (first|with_reducible exact y6 _ _|refine yh rfl ?_)),aJ,aE,by rw[hkt];clear add same;simp_all<;>(intros;omega)⟩
    ·refine z7 Z Z c1<|z7 Z Z c1<|z7 Z Z c1<|z7 Z Z c1<|z7 Z Z c1<|z7 Z Z c1<|z7 Z Z c1<|z7 Z Z c1<|au Z c1 Z<|ai Z<|z7 Z Z Z<|z7 Z Z Z<|z7 Z Z Z<|z7 Z Z Z<|z7 Z Z Z<|z7 Z Z Z<|z7 Z Z Z<|z7 Z Z Z<|z7 Z Z Z<|au Z Z Z<|ab Z<|z6 ?_
     exact ⟨_,(by repeat (first|with_reducible exact y6 _ _|refine yh rfl ?_)),aJ,aE,by rw[hkt];clear add same;simp_all<;>(intros;omega)⟩
   ·rintro u hu
    refine zu Z (fun cu=>?_) (fun cu=>?_)
    ·have hre:gA f Q (v:Int)=hU Q (v:Int) (dX f):=by unfold gA;rw[if_neg c2,if_pos (qz (hu▸cu))]
     refine aV<|aR Z<|aa Z<|aR Z<|az Z<|za (zn j7 Z wz (by decide) Z Z)<|za (zq (c:=.int _ _) j6 Z ⟨_,.head⟩ Z)<|zr Z (zm (.l (.l (.l (.l (.r (.rest _))))))) (same jq Q hKB _ _ hvN nn) ?_
     rintro r70 O70 ⟨j1,rfl,rfl,_⟩
     refine z6<|zy (zb (zc .t4))<|zy (zb (zc .t4))<|zy (zb (zc .t4))<|zy (zb (zc .t4))<|zy (zb (zc .t4))<|aV<|aC Z Z<|aa Z<|z6 ?_
     exact ⟨(v+1,j1),dy,aJ,⟨_,(.refl _),by rw[hstep,hre];rfl⟩,hv2,by dsimp only;omega⟩
    ·have hre:gA f Q (v:Int)=Q:=by unfold gA;rw[if_neg c2,if_neg (of_decide_eq_false (hu▸cu))]
     refine zg<|aV<|aC Z Z<|aa Z<|z6 ?_
     exact ⟨(v+1,jq),dy,aJ,⟨_,(.refl _),by rw[hstep,hre]⟩,hv2,by dsimp only;omega⟩
 ·obtain rfl:v=f.vars.length:=by simp at cv;omega
  have htk:(bh f.vars.length).take f.vars.length=bh f.vars.length:=List.take_of_length_le (by rw[bI];exact Nat.le_refl _)
  rw[htk]
  refine y7<|yp ?_
  exact ⟨jq,rfl,⟨_,.refl _,by rw[rD]⟩,trivial⟩
end Go.Proofs.YtdilpodccjlkgaaGreatDoor
namespace Go.Proofs.YtdilpodccjlkgaaGreatDoor
open Go.Proofs.Tryz
open Go.Proofs Go.Lib Go.Shelf Go.RowKit
theorem E6:de prog 75 #[(0,3),(3,1),(4,1),(5,1),(6,1),(7,1),(8,1),(9,1),(10,1)] [.raw (.slice none 0 0),.raw (.slice none 0 0),.raw (.slice none 0 0),.raw (.pointer none),.raw (.slice none 0 0),.raw (.slice none 0 0),.raw (.pointer none),.int .i64 0,.raw (.slice none 0 0),.raw (.map none),.raw (.slice none 0 0)]:=⟨_,_,j7,zeroValue75,fun w=>by kernel_rfl,rfl⟩
variable {E:World}
set_option maxRecDepth 20000
def Cf (f:ad):Bool:=bc f&&(cQ f&&fc f)
theorem AH (f:ad):fe f (fun _=>false)=List.replicate f.blocks.length 0:=by
 unfold fe
 refine List.ext_getElem? fun j=>?_
 rw[qq,List.getElem?_replicate]
 split
 ·rename_i h;rw[dO h];rfl
 ·rename_i h;rw[List.getElem?_eq_none (by rw[bI];omega)];rfl
set_option maxHeartbeats 4000000 in
theorem pl (f:ad) (hA:EF f E) (hp:Cf f=true):aU prog E 18 [.agg (bD f)] []
  (fun y O=>∃g:Nat × Nat × Nat × Nat × Nat × Nat × Nat × List (f7 × Int),y=.tup [.po g.1 0,.int .i64 0]∧O=AX f g.1 g.2.1 g.2.2.1 g.2.2.2.1 g.2.2.2.2.1 g.2.2.2.2.2.1 g.2.2.2.2.2.2.1 (dC f) [] g.2.2.2.2.2.2.2 (fe f fun j=>fj (ae f) f.blocks.length 0 j)∧fW f (fun m=>fj (ae f) f.blocks.length 0 m.1) g.2.2.2.2.2.2.2):=by
 obtain ⟨hf,hL,hR,ht,hs⟩:=id hA
 have hf3:=hf.2.2.1
 have hvars:=hf.1
 have hnb:=hR.nblk
 have h1:=ol (E:=E) f hf hL
 rw[if_pos (by unfold Cf at hp;rw[hp])] at h1
 have h2:=sU (E:=E) f hf hL ht
 have h3:=jM (E:=E) f hf hL ht
 have h4:=mw (E:=E) f hf hL ht
 have h5:=xg (E:=E) (f.vars.length+1) (by omega)
 have hpos:=hR.run.pos
 have hE:=hR.hE
 have hG:=hE.grph
 obtain ⟨b0,hb0⟩:∃b,f.blocks[0]?=some b:=⟨_,qi (by omega)⟩
 have hl0:=hR.lev (i:=0) (by omega)
 have hfp:(dC f).p=[]:=rD (f:=f) (bh f.vars.length) ⟨[],[]⟩
 have hblk:=fun iw js bm jd jl jm jp=>oK (E:=E) f hA iw js bm jd (f.blocks.length+1) 0 b0 (fun _=>false) jl jm jp (dC f) [] [] hb0 (by omega) ⟨fun j hj hne=>absurd (zV hG hj (.root hj.rch)) (by simpa using hne),fun _ _=>rfl⟩ (Ak hR).symm KB.first ⟨by rw[hfp];have:=hl0.1;show ((0:Nat):Int)≤1100*_;omega,by rw[hfp];exact fun q hq=>(by cases hq)⟩ (by simpa using hl0.1) (fW.emp f)
 have hfir:=fun iw js jl jm jp bm jd=>tG (E:=E) (f:=f) (t:=gx f) (pr:=rB f) (a9:=cT bm) (a10:=.own jd f.blocks.length) (iw:=iw) (js:=js) (jl:=jl) (jm:=jm) (jp:=jp) (M:=[]) hf
 have hdm:=AH f
 refine yz (γ:=Nat × Nat × Nat × Nat × Nat × Nat × Nat × List (f7 × Int)) (x:=fun g=>.tup [.po g.1 0,.int .i64 0]) (M:=fun g=>AX f g.1 g.2.1 g.2.2.1 g.2.2.2.1 g.2.2.2.2.1 g.2.2.2.2.2.1 g.2.2.2.2.2.2.1 (dC f) [] g.2.2.2.2.2.2.2 (fe f fun j=>fj (ae f) f.blocks.length 0 j)) (p:=fun g=>fW f (fun m=>fj (ae f) f.blocks.length 0 m.1) g.2.2.2.2.2.2.2) ?_
 unfold AX
 unfold AX at hblk
 unfold gR at hfir
 unfold oS at h5
 unfold bD at *
 refine zo func18 Z (by decide) Z<|ah<|ya (cs:=_) Z Z Z<|za (iR Z)<|ao Z<|z6<|zd<|ah<|ac jj jh Z Z<|zf (h1) Z<|ao Z<|z6<|ah<|aa Z<|aL Z Z<|z6<|ye Z Z<|zg<|ah<|ac jj jh Z Z<|zf (h2) Z<|za (iW Z)<|za (q4 (v:=.pf _) Z Z)<|za (iJ Z Z)<|za (qa (v:=.pf _) Z)<|ao Z<|z6<|zd<|ah<|aa Z<|aL Z Z<|z6<|ye Z Z<|zg<|zd<|zt (fun j=>false) (by kernel_rfl) Z (zm (.rest _))<|aj 0 Z (yt jj jh Z Z)<|aj 1 Z (ep Z)<|aj 2 Z (yt jj jh Z Z)<|aj 4 Z (yt jj jh Z Z)<|aj 6 Z (bK je Z Y5 Z Z) ?_
 refine aj 7 Z (eH Yg Z)<|aj 8 Z (Gv.lenM Z6 Z)<|aj 9 Z (Co Z Z)<|aj 11 Z (bK je Z Y5 Z Z)<|aj 12 Z (eH Yg Z)<|aj 13 Z (Gv.lenM Z6 Z)<|aY 3 Z<|zf (h3) Z<|z6<|aY 5 Z<|zf (h4) Z<|z6<|aY 10 Z<|zr Z (zm (.rest _)) (h5) ?_
 rintro r31 O31 ⟨⟨js,jl,jm⟩,rfl,rfl,_⟩
 refine z6<|aj 14 Z (y4 (cps:=[(0,[_,_,_]),(1,[_]),(2,[_]),(3,[_]),(4,[_]),(5,[_])]) (rs:=[_,_,_,_,_,_,_,_,.raw (.slice none 0 0),.raw (.map none),.raw (.slice none 0 0)]) E6 Z Z Z)<|aY 15 Z<|yi (cs:=_) Z Z Z Z<|fun i36=>z6<|aj 16 Z (gk Z)<|bV<|ga (off:=8) (k:=2) (T:=187) (fun _=>.head) Z<|fun jp=>zd<|yg (γ:=Nat × Nat) [7] (fun g=>[]) (fun g=>[(i36,.cells 75 (kF f (gx f) (rB f) js jp (dC f).p.length (cT g.1) (.own g.2 f.blocks.length))),(js,.cells 136 [.int .i64 ((f.vars.length+1:Nat):Int),.own jl 0,.own jm 0]),(jl,.grow 3 180 []),(jm,.grow 1 3 []),(jp,.grow 2 187 []),(0,iQ me g.1 []),(g.2,.grow 1 3 (cI (fe f fun _=>false)))]) (fun g=>True) ?_ (fun _ _ h=>h) ?_
 ·refine zt (fun j=>Nat.beq j 9||Nat.beq j 12) (by kernel_rfl) Z (zm (.rest _))<|aj 0 Z (eF Z)<|q5 (i:=1) Z (by kernel_rfl) (by kernel_rfl) (by kernel_rfl) (by kernel_rfl) (eF Z)<|q5 (i:=3) Z (by kernel_rfl) (by kernel_rfl) (by kernel_rfl) (by kernel_rfl) (bK je Z Z0 Z Z)<|q5 (i:=4) Z (by kernel_rfl) (by kernel_rfl) (by kernel_rfl) (by kernel_rfl) (eH Zb Z)<|q5 (i:=5) Z (by kernel_rfl) (by kernel_rfl) (by kernel_rfl) (by kernel_rfl) (Gv.lenM ji Z)<|yn (i:=2) (j:=6) Z Z (by kernel_rfl) ?_ ?_
  ·refine ax.makeMapS (c:=me)<|fun b39=>z6<|q5 (i:=7) Z (by kernel_rfl) (by kernel_rfl) (by kernel_rfl) (by kernel_rfl) (yb Z)<|aj 8 Z (zn j7 Z sizeOf73 (by decide) Z Z)<|yn (i:=6) (j:=9) Z Z (by kernel_rfl) ?_ ?_
   ·refine ax.makeI (m:=f.blocks.length) wx type3 Z Z Z Z Z (by simp) (by simp) (by show (8:Int)*_≤_;omega) (by omega)<|fun i43=>ze (zb (zc .head))<|ze (zb (zc .t1))<|ze (zb (zc .t2))<|ze (zb (zc .t6))<|ze (zb (zc .t6))<|ze (zb (zc .t6))<|ze (zb (zc .t6))<|z6<|ym<|yk (i:=9) Z (by kernel_rfl) (by kernel_rfl)<|yv (l:=[_]) (new:=[_,_,_,_,_,_,_,_,_,_,_]) sizeOf73 Z Z Z Z Z Z .head Z Z<|z6<|yk (i:=10) Z (by kernel_rfl) (by kernel_rfl)<|az Z<|z6<|yk (i:=11) Z (by kernel_rfl) (by kernel_rfl)<|za (zn j7 Z j5 (by decide) Z Z)<|z6<|yk (i:=12) Z (by kernel_rfl) (by kernel_rfl)<|yv (l:=[_]) (new:=[_,_,_,_,_,_,_,_,_,_,_]) j5 Z Z Z Z Z Z .head Z Z<|z6<|yq (by kernel_rfl) ?_
    exact ⟨(b39,i43),(by repeat (first|with_reducible exact y6 _ _|refine yh rfl ?_)),trivial,⟨_,(.refl _),by rw[hdm,hfp];rfl⟩,trivial⟩
   ·refine yv (l:=[_]) (new:=[_,_,_,_,_,_,_,_,_,_,_]) sizeOf73 Z Z Z Z Z Z .t2 Z Z<|z6<|aY 6 Z<|ax.makeI (m:=f.blocks.length) wx type3 Z Z Z Z Z (by simp) (by simp) (by show (8:Int)*_≤_;omega) (by omega)<|fun i43=>ze (zb (zc .head))<|ze (zb (zc .t1))<|ze (zb (zc .t2))<|ze (zb (zc .t6))<|ze (zb (zc .t6))<|ze (zb (zc .t6))<|ze (zb (zc .t6))<|z6<|q5 (i:=10) Z (by kernel_rfl) (by kernel_rfl) (by kernel_rfl) (by kernel_rfl) (yb Z)<|q5 (i:=11) Z (by kernel_rfl) (by kernel_rfl) (by kernel_rfl) (by kernel_rfl) (zn j7 Z j5 (by decide) Z Z)<|ym<|yk (i:=12) Z (by kernel_rfl) (by kernel_rfl)<|yv (l:=[_]) (new:=[_,_,_,_,_,_,_,_,_,_,_]) j5 Z Z Z Z Z Z .head Z Z<|z6<|yq (by kernel_rfl) ?_
    exact ⟨(b39,i43),(by repeat (first|with_reducible exact y6 _ _|refine yh rfl ?_)),trivial,⟨_,(.refl _),by rw[hdm,hfp];rfl⟩,trivial⟩
  ·refine ax.makeI (m:=f.blocks.length) wx type3 Z Z Z Z Z (by simp) (by simp) (by show (8:Int)*_≤_;omega) (by omega)<|fun i43=>z6<|aY 2 Z<|ax.makeMapS (c:=me)<|fun b39=>ze (zb (zc .t1))<|ze (zb (zc .t1))<|ze (zb (zc .t2))<|ze (zb (zc .t6))<|ze (zb (zc .t6))<|ze (zb (zc .t6))<|ze (zb (zc .t6))<|z6<|q5 (i:=7) Z (by kernel_rfl) (by kernel_rfl) (by kernel_rfl) (by kernel_rfl) (yb Z)<|aj 8 Z (zn j7 Z sizeOf73 (by decide) Z Z)<|ym<|yk (i:=9) Z (by kernel_rfl) (by kernel_rfl)<|yv (l:=[_]) (new:=[_,_,_,_,_,_,_,_,_,_,_]) sizeOf73 Z Z Z Z Z Z .head Z Z<|z6<|yk (i:=10) Z (by kernel_rfl) (by kernel_rfl)<|az Z<|z6<|yk (i:=11) Z (by kernel_rfl) (by kernel_rfl)<|za (zn j7 Z j5 (by decide) Z Z)<|z6<|yk (i:=12) Z (by kernel_rfl) (by kernel_rfl)<|yv (l:=[_]) (new:=[_,_,_,_,_,_,_,_,_,_,_]) j5 Z Z Z Z Z Z .head Z Z<|z6<|yq (by kernel_rfl) ?_
   exact ⟨(b39,i43),(by repeat (first|with_reducible exact y6 _ _|refine yh rfl ?_)),trivial,⟨_,(.refl _),by rw[hdm,hfp];rfl⟩,trivial⟩
 ·rintro ⟨bm,jd⟩ _
  rw[hfp]
  refine ah<|aR Z<|zr Z (zm (.l (.l (.l (.l (.l (.r (.r (.rest _))))))))) (hfir i36 js jl jm jp bm jd) ?_
  rintro r49 O49 ⟨j1,rfl,rfl,_⟩
  refine z6<|ah<|aR Z<|zr Z (zm (.l (.l (.l (.l (.l (.l (.l (.rest _))))))))) (hblk i36 js bm jd j1 jm jp) ?_
  rintro r51 O51 ⟨⟨j2,j3,j4,T⟩,rfl,rfl,hT⟩
  refine z6<|ah<|aR Z<|za (gk Z)<|ao Z<|z6<|zh<|qc (x:=.po _ _) (y:=.int _ _) Z Z ?_
  exact ⟨(i36,js,bm,jd,j2,j3,j4,T),rfl,⟨_,.refl _,by simp only[qu,Bool.false_or,hfp];rfl⟩,by simpa using hT⟩
end Go.Proofs.YtdilpodccjlkgaaGreatDoor
namespace Go.Proofs.YtdilpodccjlkgaaGreatDoor
open Go.Proofs.Tryz
open Go.Proofs Go.Lib Go.Shelf Go.RowKit
theorem Du:cF prog 29 4 1 1 [.bool false]:=⟨_,Z1,Zj,zeroValue4,by decide,by decide,by kernel_rfl⟩
variable {E:World}
set_option maxRecDepth 20000
theorem Cg (l:List Bool) (b:Bool):cB l++[.bool b]=cB (l++[b]):=by unfold cB;rw[qt];rfl
def k8 (f:ad) (i:Nat):List Bool:=((bh f.blocks.length).take i).flatMap (B4 f)
theorem pZ {f:ad} {i:Nat} (h:i<f.blocks.length):k8 f (i+1)=k8 f i++B4 f (i:Int):=by
 unfold k8
 rw[List.take_add_one,dO h,List.flatMap_append]
 simp
theorem AJ (f:ad):k8 f f.blocks.length=Do f:=by
 unfold k8 Do
 rw[List.take_of_length_le (by rw[bI];exact Nat.le_refl _)]
theorem tH {f:ad}:∀{l:List aB} {K:KS} {k:Nat} {x:aB},l[k]?=some x→nc f K (l.take (k+1))=nc f K (l.take k)++(if fd x=true then[lB f ((l.take k).foldl (dP f) K) x] else[])
 |y::l,K,0,x,h=>by
  cases h
  show nc f K [y]=[]++_
  unfold nc nc
  rw[qu];rfl
 |y::l,K,k+1,x,h=>by
  have ih:=tH (f:=f) (l:=l) (K:=dP f K y) (k:=k) (x:=x) h
  rw[List.take_succ_cons,List.take_succ_cons]
  show (if fd y=true then[lB f K y] else[])++nc f (dP f K y) (l.take (k+1))=((if fd y=true then[lB f K y] else[])++nc f (dP f K y) (l.take k))++_
  rw[ih,qk];rfl
theorem tI {f:ad} (hR:b8 f):∀i:Nat,i≤f.blocks.length→(k8 f i).length≤i*1024
 |0,_=>by unfold k8;simp
 |i+1,h=>by
  have ih:=tI hR i (by omega)
  have hb:=qi (show i<f.blocks.length by omega)
  have h1:=gH _ _ (qs hb)
  have h2:=hR.hS.2.2.2.2.1
  have h3:DJ (f.blocks[i]'(by omega)).insts≤(f.blocks[i]'(by omega)).insts.length:=List.length_filter_le _ _
  rw[pZ (by omega),qo,vO hb]
  omega
set_option maxHeartbeats 4000000 in
theorem lJ (f:ad) (hA:EF f E) (hp:Cf f=true):aI prog E 9 [.agg (bD f)] (.tup [.fro 1 ((Do f).map wR),.int .i64 0]):=by
 have h1:=pl (E:=E) f hA hp
 have hR:=hA.hR
 have hf3:=hA.hf.2.2.1
 have hnb:=hR.nblk
 have hG:=hR.hE.grph
 unfold AX at h1
 unfold bD at *
 refine zo func9 Z (by decide) Z<|ah<|ya (cs:=_) Z Z Z<|za (iR Z)<|ao Z<|z6<|ah<|ac jj jh Z Z<|zr Z (zm (.rest _)) (h1) ?_
 rintro r13 O13 ⟨⟨iw,js,bm,jd,jl,jm,jp,T⟩,rfl,rfl,hT⟩
 refine za (iW Z)<|za (q4 (v:=.po _ _) Z Z)<|za (iJ Z Z)<|za (gk Z)<|ao Z<|z6<|zd<|ah<|aa Z<|aL Z Z<|z6<|ye Z Z<|zg<|ah<|za (iR Z)<|z6<|gj (t:=6) (k:=1) (T:=4) Z<|fun i6=>zd<|ah<|aq je Z Z0 Z Z<|aH Zb Z<|ap ji Z<|aa Z<|z6<|zj<|y8 (γ:=Nat × Nat) [4,20,21] (fun g=>[(22,.int .i64 g.1),(6,.own g.2 (k8 f g.1).length)]) (fun g=>[(g.2,.grow 1 4 (cB (k8 f g.1))),(iw,.cells 75 (kF f (gx f) (rB f) js jp (dC f).p.length (cT bm) (.own jd f.blocks.length))),(js,.cells 136 [.int .i64 ((f.vars.length+1:Nat):Int),.own jl (dC f).l.length,.own jm ([]:List Int).length]),(jl,.grow 3 180 ((dC f).l.map bM).flatten),(jm,.grow 1 3 (cI ([]:List Int))),(jp,.grow 2 187 ((dC f).p.map bO).flatten),(0,iQ me bm T),(jd,.grow 1 3 (cI (fe f fun j=>fj (ae f) f.blocks.length 0 j)))]) (fun g=>g.1≤f.blocks.length) (fun g=>f.blocks.length - g.1) (0,i6) eZ aE (ql _) ?_
 rintro ⟨i,io⟩ hi
 try dsimp only at *
 have hpl:=tI hR i hi
 refine ah<|aw Z Z<|z6<|zd<|zw Z (fun ci=>?_) (fun ci=>?_)
 ·have hi2:i<f.blocks.length:=by simp at ci;omega
  have hb:=qi hi2
  obtain ⟨b,hbe⟩:∃b,f.blocks[i]=b:=⟨_,rfl⟩
  rw[hbe] at hb
  have hbg:=gB hb
  have hbm:=qs hb
  have hsm:=gH _ _ hbm
  have hsh:=hR.hS.2.2.2.2.1
  have hdom:fj (ae f) f.blocks.length 0 (i:Int)=true:=(hG.domB_iff _ _).2 (.root (hR.hs.2.1 i hi2))
  refine zg<|zd<|zj<|ah<|aa Z<|za (bx i ji ju Z Z Z hb)<|ac Y4 ju Z Z<|y5 (cs:=[.str ⟨#[]⟩,.raw (.slice none 0 0),.raw (.slice none 0 0),.int .i64 0,.int .i64 0,.int .i64 0,.int .i64 0]) Zc Z Z<|fun i8=>ao Z<|zz ju Z Z Z Z Z Z .head Z<|ze (yd (t:=8) Z .head)<|z6<|ah<|aq jg Z Zd Z Z<|aH Zs Z<|ap jt Z<|aa Z<|z6 ?_
  have hz:k8 f i++nc f (jS f i) (b.insts.take 0)=k8 f i:=by rw[List.take_zero];unfold nc;rw[qu]
  refine zj<|y8 (γ:=Nat × Nat) [4,7,20,21,22,28,29] (fun g=>[(30,.int .i64 g.1),(6,.own g.2 (k8 f i++nc f (jS f i) (b.insts.take g.1)).length)]) (fun g=>[(g.2,.grow 1 4 (cB (k8 f i++nc f (jS f i) (b.insts.take g.1)))),(iw,.cells 75 (kF f (gx f) (rB f) js jp (dC f).p.length (cT bm) (.own jd f.blocks.length))),(js,.cells 136 [.int .i64 ((f.vars.length+1:Nat):Int),.own jl (dC f).l.length,.own jm ([]:List Int).length]),(jl,.grow 3 180 ((dC f).l.map bM).flatten),(jm,.grow 1 3 (cI ([]:List Int))),(jp,.grow 2 187 ((dC f).p.map bO).flatten),(0,iQ me bm T),(jd,.grow 1 3 (cI (fe f fun j=>fj (ae f) f.blocks.length 0 j)))]) (fun g=>g.1≤b.insts.length) (fun g=>b.insts.length - g.1) (0,io) ⟨Z,by rw[hz];rfl,trivial⟩ ⟨_,(.refl _),by rw[hz]⟩ (ql _) ?_
  rintro ⟨k,ko⟩ hk
  try dsimp only at *
  have hwl:(nc f (jS f i) (b.insts.take k)).length≤k:=by
   rw[rq]
   exact Nat.le_trans (List.length_filter_le _ _) (by rw[List.length_take];omega)
  refine ah<|aw Z Z<|z6<|zd<|zw Z (fun ck=>?_) (fun ck=>?_)
  ·have hk2:k<b.insts.length:=by simp at ck;omega
   obtain ⟨x,hx⟩:∃x,b.insts[k]?=some x:=⟨_,qi hk2⟩
   have hkat:DI f (i:Int) k=(b.insts.take k).foldl (dP f) (jS f i):=by unfold DI jS;rw[hbg]
   have hstep:=tH (f:=f) (K:=jS f i) hx
   refine zg<|zd<|zj<|ah<|aa Z<|za (bx k jt jk Z Z Z hx)<|ac Zn jk Z Z<|y5 (cs:=[.int .i64 0,.int .i64 0,.raw (.slice none 0 0),.int .i64 0]) Z5 Z Z<|fun i10=>ao Z<|zz jk Z Z Z Z Z Z .head Z<|ze (yd (t:=10) Z .head)<|z6<|ah<|aq wy Z jv Z Z<|ay jy Z<|zf (oJ x.op) Z<|z6<|zu Z (fun c=>?_) (fun c=>?_)
   ·have c:18≤x.op∧x.op≤24:=by simpa using c
    have hck:fd x=true:=qv c
    rw[if_pos hck] at hstep
    have hval:decide ((aW T ((i:Int),(k:Int))).getD 0=1)=lB f ((b.insts.take k).foldl (dP f) (jS f i)) x:=by
     rw[hT ((i:Int),(k:Int)),tn hb hx,hck,hkat]
     simp only[hdom,Bool.true_and]
     cases lB f ((b.insts.take k).foldl (dP f) (jS f i)) x<;>rfl
    refine aV<|za (gQ Z)<|aR Z<|az Z<|za (zn j7 Z sizeOf73 (by decide) Z Z)<|za (zq (c:=cT _) isAgg73 Z ⟨_,.t1⟩ Z)<|aa Z<|aa Z<|za (y4 (cps:=[(0,[_]),(1,[_])]) (rs:=[_,_]) zN Z Z Z)<|za (Gv.lookup1SK (k:=((i:Int),(k:Int))) Ap underlying73 Zk Z Z ⟨_,.t6⟩)<|ak Z Z<|y3 (rows:=[[_]]) Du Z Z Z Z Z<|yj (k:=1) Z1 type4 Z Z Z Z Z (fun _=>.head) (by rw[aS,Nat.mul_one]) (by decide) Z (by show (_+_)*1≤_;simp<;>omega) (by simp<;>omega)<|fun i49=>za (lj Z)<|z6<|aV<|aC Z Z<|aa Z<|z6 ?_
    exact ⟨(k+1,i49),kA,⟨rfl,congrArg (AV.own _) (by rw[hstep];simp only[qo,List.length_cons,List.length_nil];omega),trivial⟩,⟨_,(.refl _),by dsimp only;rw[hstep,←qk,←hval];exact congrArg (·::_) (congrArg (fun l=>(_,bu.grow 1 _ l)) (Cg _ _))⟩,hk2,by dsimp only;omega⟩
   ·have c:¬(18≤x.op∧x.op≤24):=by simp at c;omega
    rw[if_neg (by unfold fd;simpa using c),qu] at hstep
    refine zg<|aV<|aC Z Z<|aa Z<|z6 ?_
    exact ⟨(k+1,ko),kA,⟨rfl,congrArg (AV.own _) (by rw[hstep]),trivial⟩,⟨_,(.refl _),by dsimp only;rw[hstep]⟩,hk2,by dsimp only;omega⟩
  ·obtain rfl:k=b.insts.length:=by simp at ck;omega
   have hpb:k8 f i++nc f (jS f i) (b.insts.take b.insts.length)=k8 f (i+1):=by rw[pZ hi2,qn];unfold B4;rw[hbg]
   refine y7<|aV<|aC Z Z<|aa Z<|z6 ?_
   exact ⟨(i+1,ko),dy,⟨rfl,congrArg (AV.own _) (by rw[hpb]),trivial⟩,⟨_,(.refl _),by dsimp only;rw[hpb]⟩,hi2,by dsimp only;omega⟩
 ·obtain rfl:i=f.blocks.length:=by simp at ci;omega
  rw[AJ]
  refine y7<|ah<|za (gQ Z)<|za (lj Z)<|ao Z<|z6<|zy (aX.knowB (t:=2) Z .head (by simp))<|zh<|qc (x:=.fro _ _) (y:=.int _ _) Z Z ?_
  rfl
end Go.Proofs.YtdilpodccjlkgaaGreatDoor
namespace Go.Proofs.YtdilpodccjlkgaaGreatDoor
open Go.Proofs.Tryz
open Go.Proofs Go.Lib
theorem u7 {f:ad} (h:bz f) (h64:∀b∈f.blocks,∀x∈b.insts,dG x.num):D9 f:=by
 have h1:=h.1
 unfold kS at h1
 simp only[Bool.or_eq_false_iff,decide_eq_false_iff_not] at h1
 obtain ⟨_,_,_,_,_,h6⟩:=h
 exact ⟨by omega,fun b hb=>(h6 b hb).1,fun b hb x hx=>⟨fK ((h6 b hb).2.1 x hx),h64 b hb x hx⟩,fun b hb=>(h6 b hb).2.2⟩
end Go.Proofs.YtdilpodccjlkgaaGreatDoor
namespace Go.Proofs.YtdilpodccjlkgaaGreatDoor
open Go.Proofs.Tryz
open Go.Proofs
def CF (x y:AV):Prop:=∀I v,bg I x v→bg I y v
def xA (xs ys:List AV):Prop:=∀I vs,RepL I xs vs→RepL I ys vs
theorem CF.refl (x:AV):CF x x:=fun _ _ h=>h
theorem CF.nil (k:Nat):CF (.raw (.slice none 0 0)) (.fro k []):=fun _ _ h=>⟨none,0,0,h,rfl,Nat.le_refl _,fun _=>rfl,trivial⟩
theorem xA.nil:xA [] []:=fun _ _ h=>h
theorem xA.cons {x y:AV} {xs ys:List AV} (h:CF x y) (hs:xA xs ys):xA (x::xs) (y::ys):=fun I _ ⟨v,us,e,h1,h2⟩=>⟨v,us,e,h I v h1,hs I us h2⟩
theorem CF.agg {xs ys:List AV} (h:xA xs ys):CF (.agg xs) (.agg ys):=fun I _ ⟨vs,e,h1⟩=>⟨vs,e,h I vs h1⟩
end Go.Proofs.YtdilpodccjlkgaaGreatDoor
namespace Go.Proofs.YtdilpodccjlkgaaGreatDoor
open Go.Proofs.Tryz
open Go.Proofs Go.Lib Go.Shelf Go.RowKit
theorem Es:de prog 61 #[(0,1),(1,1)] [.str ⟨#[]⟩,.int .i64 0]:=⟨_,_,Zf,zeroValue61,fun w=>by kernel_rfl,rfl⟩
theorem Dv:cF prog 22 61 2 2 [.str ⟨#[]⟩,.int .i64 0,.str ⟨#[]⟩,.int .i64 0]:=⟨_,Z6,Y2,zeroValue61,by decide,by decide,by kernel_rfl⟩
theorem Dw:cF prog 45 54 2 4 [.int .i64 0,.int .i64 0,.raw (.slice none 0 0),.int .i64 0,.int .i64 0,.int .i64 0,.raw (.slice none 0 0),.int .i64 0]:=⟨_,jt,jk,Z5,by decide,by decide,by kernel_rfl⟩
theorem E7:de prog 49 #[(0,1),(1,1),(2,2)] [.int .i64 0,.int .i64 0,.int .i64 0,.int .i64 0]:=⟨_,_,j8,zeroValue49,fun w=>by kernel_rfl,rfl⟩
theorem E8:de prog 51 #[(0,1),(1,1),(2,1),(3,4)] [.str ⟨#[]⟩,.raw (.slice none 0 0),.raw (.slice none 0 0),.int .i64 0,.int .i64 0,.int .i64 0,.int .i64 0]:=⟨_,_,jg,Zc,fun w=>by kernel_rfl,rfl⟩
theorem AK:cF prog 24 51 1 7 [.str ⟨#[]⟩,.raw (.slice none 0 0),.raw (.slice none 0 0),.int .i64 0,.int .i64 0,.int .i64 0,.int .i64 0]:=⟨_,ji,ju,Zc,by decide,by decide,by kernel_rfl⟩
theorem E9:de prog 26 #[(0,1),(1,1),(2,1)] [.raw (.slice none 0 0),.raw (.slice none 0 0),.raw (.slice none 0 0)]:=⟨_,_,je,zeroValue26,fun w=>by kernel_rfl,rfl⟩
variable {E:World}
set_option maxRecDepth 20000
theorem Ch {f:ad} (hS:bz f) {b:aN} (hb:b∈f.blocks) {x:aB} (hx:x∈b.insts):x.dst<f.vars.length:=by
 rcases (fK ((hS.2.2.2.2.2 b hb).2.1 x hx)).dst with ⟨h1,h2⟩|⟨h0,_,h3⟩
 ·omega
 ·exact (kZ h3).1
theorem oL {f:ad} (ht:bc f=true) (hs:cQ f=true) (h64:∀b∈f.blocks,∀x∈b.insts,dG x.num):b8 f:=by
 have hS:=dT ht
 have hE:=cR ht
 have hSg:=(pQ hE).1 hs
 refine ⟨fun b hb=>?_,hS,hE,hSg,BL hSg.2.2.1 (fun b hb x hx=>Ch hS hb hx) fun b hb p hp=>?_,u7 hS h64⟩
 ·unfold bc at ht
  exact List.all_eq_true.1 (AE ht).2 b hb
 ·have:=kZ ((hS.2.2.2.2.2 b hb).1 p hp).1
  exact ⟨this.2,this.1⟩
theorem rE {f:ad} (h:fS f=true):small f∧bc f=true∧cQ f=true∧Cf f=true:=by
 unfold fS at h
 simp only[qx] at h
 exact ⟨((jV f).1 h.1.1).small,h.1.2,h.2.1,by unfold Cf;rw[h.1.2,h.2.1,h.2.2];rfl⟩
def Ci:ad:=⟨[⟨⟨#[120,115]⟩,2⟩,⟨⟨#[105]⟩,0⟩],[0,1],[⟨⟨#[97]⟩,[],[⟨18,-1,[0,1],0⟩,⟨18,-1,[0,1],0⟩],⟨2,1,0,0⟩⟩]⟩
theorem xB:small Ci:=by unfold small Ci;simp[sx];decide
theorem p0:bc Ci=true:=by decide +kernel
theorem tJ:cQ Ci=true:=by decide +kernel
theorem xC:Cf Ci=true:=by decide +kernel
theorem Cj:Do Ci=[false,true]:=by decide +kernel
theorem rF (hL:bn E):aI prog E 7 [] (.bool true):=by
 have hR:b8 Ci:=oL p0 tJ fun b hb x hx=>by
  have:b=⟨⟨#[97]⟩,[],[⟨18,-1,[0,1],0⟩,⟨18,-1,[0,1],0⟩],⟨2,1,0,0⟩⟩:=by simpa [Ci] using hb
  subst this
  have:x=⟨18,-1,[0,1],0⟩:=by simpa using hx
  subst this
  unfold dG;decide
 have hP:=lJ (E:=E) Ci ⟨xB,hL,hR,p0,tJ⟩ xC
 rw[Cj] at hP
 refine zo func7 Z (by decide) Z<|ah<|ab Z<|z6<|ah<|za (y4 (cps:=[(0,[_]),(1,[_])]) (rs:=[_,_]) Es Z Z Z)<|za (y4 (cps:=[(0,[_])]) (rs:=[_,.int .i64 0]) Es Z Z Z)<|y3 (rows:=[[_,_],[_,_]]) Dv Z Z Z Z Z<|y3 (rows:=[[_],[_]]) qP Z Z Z Z Z<|y3 (rows:=[[_],[_]]) qP Z Z Z Z Z<|za (y4 (cps:=[(0,[_]),(1,[_]),(2,[_])]) (rs:=[_,_,_,.int .i64 0]) BN Z Z Z)<|y3 (rows:=[[_],[_]]) qP Z Z Z Z Z<|za (y4 (cps:=[(0,[_]),(1,[_]),(2,[_])]) (rs:=[_,_,_,.int .i64 0]) BN Z Z Z)<|y3 (rows:=[[_,_,_,_],[_,_,_,_]]) Dw Z Z Z Z Z<|za (y4 (cps:=[(0,[_]),(1,[_])]) (rs:=[_,_,.int .i64 0,.int .i64 0]) E7 Z Z Z)<|za (y4 (cps:=[(0,[_]),(2,[_]),(3,[_,_,_,_])]) (rs:=[_,.raw (.slice none 0 0),_,_,_,_,_]) E8 Z Z Z)<|ze (aX.slot (t:=14) Z (CF.agg (.cons (.refl _) (.cons (.nil 3) (.cons (.refl _) (.cons (.refl _) (.cons (.refl _) (.cons (.refl _) (.cons (.refl _) .nil)))))))))<|y3 (rows:=[[_,_,_,_,_,_,_]]) AK Z Z Z Z Z<|za (y4 (cps:=[(0,[_]),(1,[_]),(2,[_])]) (rs:=[_,_,_]) E9 Z Z Z)<|y5 (cs:=[.raw (.slice none 0 0),.raw (.slice none 0 0),.raw (.slice none 0 0)]) zeroValue26 Z Z<|fun i1=>zz jh Z Z Z Z Z Z .head Z<|ze (yd (t:=1) Z .head)<|z6<|ah<|ac jj jh Z Z<|zf (hP) Z<|za (iW Z)<|za (q4 (v:=.fro _ _) Z Z)<|za (iJ Z Z)<|za (oP Z)<|ao Z<|z6<|ah<|aa Z<|ak Z Z<|ai Z<|z8 Z Z Z<|bb Z<|z8 Z Z Z<|ap Z1 Z ?_
 refine z8 Z Z Z<|ak Z Z<|ar Z Z Z<|ai Z<|z8 Z Z Z<|bb Z<|z8 Z Z Z<|za (bx 0 Z1 Zj Z Z Z Z)<|z8 Z Z Z<|za (yo (c:=.bool _) Yh Z)<|z8 Z Z Z<|aD Z<|ar Z Z Z<|ai Z<|z8 Z Z Z<|bb Z<|z8 Z Z Z<|za (bx 1 Z1 Zj Z Z Z Z)<|z8 Z Z Z<|za (yo (c:=.bool _) Yh Z)<|ar Z Z Z<|ab Z<|z6<|zh<|zk (x:=.bool _) Z ?_
 rfl
end Go.Proofs.YtdilpodccjlkgaaGreatDoor
namespace Go.Proofs.YtdilpodccjlkgaaGreatDoor
open Go.Proofs.Tryz
open Go.Proofs Go.Lib Go.Shelf Go.RowKit
variable {E:World}
set_option maxRecDepth 20000
end Go.Proofs.YtdilpodccjlkgaaGreatDoor
namespace Go.Proofs.YtdilpodccjlkgaaGreatDoor
open Go.Proofs.Tryz
open Go.Proofs Go.Lib Go.Shelf Go.RowKit
variable {E:World}
set_option maxRecDepth 20000
theorem tK (op:Int) (h:0≤op∧op≤26):aI prog E 15 [.int .i64 op] (.int .i64 (if 18≤op∧op≤24 then op - 17 else 0)):=by
 refine zo func15 Z (by decide) Z<|ah<|ao Z<|z6<|zd<|ah<|aa Z<|aw Z Z<|ai Z<|zp (s:=5) Z (fun c1=>?_) (fun c1=>?_)
 ·have h1:op<18:=by simpa using c1
  refine z7 Z Z c1<|z7 Z Z c1<|ar Z c1 Z<|z6<|yl Z Z<|ah<|ao Z<|z6<|zh<|zk (x:=.int _ _) Z ?_
  rw[if_neg (by omega)]
 ·have h1:¬op<18:=by simpa using c1
  refine z8 Z Z c1<|aa Z<|z8 Z Z c1<|za (yx Z Z)<|au Z c1 Z<|z6<|zu Z (fun c2=>?_) (fun c2=>?_)
  ·have h2:24<op:=by simpa using c2
   refine ah<|ao Z<|z6<|zh<|zk (x:=.int _ _) Z ?_
   rw[if_neg (by omega)]
  ·have h2:¬24<op:=by simpa using c2
   refine zg<|ah<|aa Z<|za (Gv.sub Z Z (by unfold oV;omega))<|ao Z<|z6<|zh<|zk (x:=.int _ _) Z ?_
   rw[if_pos (by omega)]
end Go.Proofs.YtdilpodccjlkgaaGreatDoor
namespace Go.Proofs.YtdilpodccjlkgaaGreatDoor
open Go.Proofs.Tryz
open Go.Proofs
variable {E:World}
set_option maxRecDepth 20000
end Go.Proofs.YtdilpodccjlkgaaGreatDoor
namespace Go.Proofs.YtdilpodccjlkgaaGreatDoor
open Go.Proofs.Tryz
section
variable {E:World} {P:Program} {n:Nat} {l:List Oper} {Q:aM→OL→Prop} {fuel:Nat} {listed:Array Bool} {env:aM} {O R Om:OL}
variable {d ty:Nat} {op:Op} {pos:String} {af:Array Edge}
end
end Go.Proofs.YtdilpodccjlkgaaGreatDoor
namespace Go.Proofs.YtdilpodccjlkgaaGreatDoor
open Go.Proofs.Tryz
section
variable {E:World} {env:aM} {O O1 O':OL} {m i:Nat} {o:bu} {X X':OL}
end
section
variable {E:World} {env:aM} {O O1 O':OL} {m i k:Nat} {T:TypeId} {cs cs':List AV} {X:OL}
end
end Go.Proofs.YtdilpodccjlkgaaGreatDoor
namespace Go.Proofs.YtdilpodccjlkgaaGreatDoor
open Go.Proofs.Tryz
open Go.Proofs Go.Lib Go.Shelf Go.RowKit
variable {E:World}
set_option maxRecDepth 20000
end Go.Proofs.YtdilpodccjlkgaaGreatDoor
namespace Go.Proofs.YtdilpodccjlkgaaGreatDoor
open Go.Proofs.Tryz
open Go.Proofs Go.Lib Go.Shelf Go.RowKit
variable {E:World}
set_option maxRecDepth 20000
end Go.Proofs.YtdilpodccjlkgaaGreatDoor
namespace Go.Proofs.YtdilpodccjlkgaaGreatDoor
open Go.Proofs.Tryz
section
variable {E:World} {P:Program} {ops:Array Oper} {K:aM→OL→Prop} {env:aM} {O O':OL} {rest:List Oper}
variable {d ty:Nat} {pos:String} {af:Array Edge} {x y z:Operand} {t u e:TypeId}
end
end Go.Proofs.YtdilpodccjlkgaaGreatDoor
namespace Go.Proofs.YtdilpodccjlkgaaGreatDoor
open Go.Proofs.Tryz
section
variable {E:World} {P:Program} {ops:Array Oper} {K:aM→OL→Prop} {env:aM} {O O':OL} {rest:List Oper}
variable {d ty:Nat} {pos:String} {af:Array Edge} {x y z:Operand} {t u e:TypeId}
end
end Go.Proofs.YtdilpodccjlkgaaGreatDoor
namespace Go.Proofs.YtdilpodccjlkgaaGreatDoor
open Go.Proofs.Tryz
open Go.Proofs Go.Lib Go.Shelf Go.RowKit
variable {E:World}
set_option maxRecDepth 20000
end Go.Proofs.YtdilpodccjlkgaaGreatDoor
namespace Go.Proofs.YtdilpodccjlkgaaGreatDoor
open Go.Proofs.Tryz
open Go.Proofs Go.Lib Go.Shelf Go.RowKit
variable {E:World}
set_option maxRecDepth 20000
end Go.Proofs.YtdilpodccjlkgaaGreatDoor
namespace Go.Proofs.YtdilpodccjlkgaaGreatDoor
open Go.Proofs.Tryz
open Go.Proofs Go.Lib Go.Shelf Go.RowKit
variable {E:World}
set_option maxRecDepth 20000
section
variable {α β:Type} {g:Nat→α→β} {d:β} {n k:Nat} {l:List α}
end
end Go.Proofs.YtdilpodccjlkgaaGreatDoor
namespace Go.Proofs.YtdilpodccjlkgaaGreatDoor
open Go.Proofs.Tryz
open Go.Proofs Go.Lib Go.Shelf Go.RowKit
variable {E:World}
set_option maxRecDepth 20000
end Go.Proofs.YtdilpodccjlkgaaGreatDoor
namespace Go.Proofs.YtdilpodccjlkgaaGreatDoor
open Go.Proofs.Tryz
open Go.Proofs Go.Lib Go.Shelf Go.RowKit
variable {E:World}
set_option maxRecDepth 20000
theorem v2 {x:aB}:decide (0<(if 18≤x.op∧x.op≤24 then x.op - 17 else 0))=fd x:=by
 unfold fd
 split
 ·rename_i h;rw[qv (show 0<x.op - 17 by omega),qv h]
 ·rename_i h;rw[qw h];rfl
end Go.Proofs.YtdilpodccjlkgaaGreatDoor
