/- The document's first check of a block, how it comes from another one, whether it was passed. Of programs that are little. -/
import Derived.Test.YtdilpodccjlkgaaGreatDoorZu
import Derived.Test.YtdilpodccjlkgaaGreatDoorZq
import Derived.Test.YtdilpodccjlkgaaGreatDoorZr
import Derived.Test.YtdilpodccjlkgaaGreatDoorZs
import Derived.Test.YtdilpodccjlkgaaGreatDoorZn
import Derived.Test.YtdilpodccjlkgaaGreatDoorZh
import Derived.Test.YtdilpodccjlkgaaGreatDoorZc
import Derived.Test.YtdilpodccjlkgaaGreatDoorZt
import Derived.Test.YtdilpodccjlkgaaGreatDoorZm
set_option linter.unusedVariables false
set_option linter.unusedSimpArgs false
set_option linter.unusedSectionVars false
namespace Go.Proofs.YtdilpodccjlkgaaGreatDoor
open Go.Proofs.Tryz
open Go.Proofs Go.Lib Go.Shelf Go.RowKit
variable {E:World}
set_option maxRecDepth 20000
theorem ri (op:Int):aM prog E 19 [.int .i64 op] (.bool (decide (18≤op)&&decide (op≤24))):=by
 refine zp func19 Z (by decide) Z<|ai<|ab Z<|z6<|ai<|aa Z<|za (q5 Z Z)<|aj Z<|zq (s:=5) Z (fun c1=>?_) (fun c1=>?_)
 ·refine z8 Z Z c1<|aa Z<|z8 Z Z c1<|za (Gv.leq Z Z)<|aw Z c1 Z<|ab Z<|z6<|zg<|zn (x:=.bool _) Z ?_
  exact jb (by simp_all<;>omega)
 ·refine z7 Z Z c1<|z7 Z Z c1<|ax Z c1 Z<|ab Z<|z6<|zg<|zn (x:=.bool _) Z ?_
  exact jb (by simp_all<;>omega)
end Go.Proofs.YtdilpodccjlkgaaGreatDoor
namespace Go.Proofs.YtdilpodccjlkgaaGreatDoor
open Go.Proofs.Tryz
open Go.Proofs Go.Lib Go.Shelf Go.RowKit
variable {E:World}
set_option maxRecDepth 20000
theorem BP (f:ac) {i:Nat} (hi:i<f.blocks.length):(nT f)[i]?=some (d6 (ah f) f.blocks.length i):=by
 unfold nT
 rw[eT _ hi]
 congr 1
 unfold tz d6
 rw[List.filter_map,List.map_map,List.filter_filter]
 have:((fun p:Int × Int=>p.2)∘fun b=>(gi (bh (ah f) f.blocks.length) b,b))=_root_.id:=rfl
 rw[this,List.map_id]
 refine List.filter_congr fun c _=>?_
 simp[Function.comp,Bool.and_comm]
theorem xW (f:ac) (hE:bW f) (hn:f.blocks.length≤1000) {i:Nat} (hi:i<f.blocks.length) (hr:(i:Int)∈aB (ah f) f.blocks.length) (y:AV):aM prog E 74 [mH f (lG eI (nT f)) y,.int .i64 i] (.fro 1 ((d6 (ah f) f.blocks.length i).map cX)):=by
 have hlev:decide (gi (bO (ah f) f.blocks.length) (i:Int)≠-1)=true:=w8 ((hE.grph.lev_mem _).2 hr)
 have hkl:(d6 (ah f) f.blocks.length i).length≤1000:=by
  unfold d6
  exact Nat.le_trans (List.length_filter_le _ _) (by rw[bS];exact hn)
 have hget:((nT f).map fun r=>[AV.fro 1 (r.map eI.row)])[i]?=some [.fro 1 ((d6 (ah f) f.blocks.length i).map cX)]:=by rw[w2,BP f hi];rfl
 have hh:=nj (E:=E) (bO (ah f) f.blocks.length) (i:Int) (.fro 1 ((bh (ah f) f.blocks.length).map cX)) (lG eI (nT f)) y (by rw[hE.grph.lev.len];exact hn)
 unfold mH lG
 unfold lG at hh
 refine zp func74 Z (by decide) Z<|ai<|za (jI Z)<|z6<|zd<|ai<|za (fc Z)<|aa Z<|zh (hh) Z<|aC Z<|z6<|yg Z (by rw[hlev];rfl)<|zi<|ai<|za (fc Z)<|za (yk Z)<|au Zc Z Xj Z Z<|aI isAgg70 Z<|aa Z<|za (Gv.idxF (j:=i) jh j7 Z Z Z hget)<|aI jf Z<|zh (uV _ hkl) Z<|za (nI Z)<|z6<|zg<|zn (x:=.fro _ _) Z ?_
 rfl
def IV (f:ac) (K:KS) (i:Int):Prop:=(K.p.length:Int)≤1100*gi (bO (ah f) f.blocks.length) i∧∀q∈K.p,q.2.length≤1000
theorem H2 {f:ac} {K:KS} {x:aF} (hx:x.args.length≤1000) (h:∀q∈K.p,q.2.length≤1000):(ec f K x).p.length≤K.p.length+1∧(∀q∈(ec f K x).p,q.2.length≤1000)∧∃l,(ec f K x).p=K.p++l:=by
 unfold ec
 split
 ·rw[Fj]
  refine ⟨by simp,fun q hq=>?_,_,rfl⟩
  rcases List.mem_append.1 hq with hq|hq
  ·exact h q hq
  ·rw[List.mem_singleton.1 hq];exact hx
 ·rw[zV];exact ⟨by omega,h,[],by simp⟩
theorem xX {f:ac}:∀(l:List aF) (K:KS),(∀x∈l,x.args.length≤1000)→(∀q∈K.p,q.2.length≤1000)→(l.foldl (ec f) K).p.length≤K.p.length+l.length∧(∀q∈(l.foldl (ec f) K).p,q.2.length≤1000)∧∃m,(l.foldl (ec f) K).p=K.p++m
 |[],K,_,h=>⟨by simp,h,[],by simp⟩
 |x::l,K,hx,h=>by
  obtain ⟨h1,h2,m1,h3⟩:=H2 (f:=f) (hx x (.head _)) h
  obtain ⟨g1,g2,m2,g3⟩:=xX l (ec f K x) (fun y hy=>hx y (.tail _ hy)) h2
  rw[List.foldl_cons]
  exact ⟨by rw[List.length_cons];omega,g2,m1++m2,by rw[g3,h3,qv]⟩
theorem dp (K:KS) (a b c:Int):∃l,(em K a b c).l=K.l++l:=by unfold em;split;exact ⟨_,rfl⟩;exact ⟨[],by simp⟩
theorem eW {K L:KS} {M:List fI} (h:∃l,K.l=M++l) (g:∃l,L.l=K.l++l):∃l,L.l=M++l:=by
 obtain ⟨l,h⟩:=h;obtain ⟨m,g⟩:=g;exact ⟨l++m,by rw[g,h,qv]⟩
theorem jB (K:KS) (a b:Int) (o:Option Int):∃l,(addO K a b o).l=K.l++l:=by cases o with|none=>exact ⟨[],by simp[addO]⟩|some c=>exact dp K a b c
theorem nD (K:KS) (a b:Int):∃l,(iz K a b).l=K.l++l:=eW (dp _ _ _ _) (dp _ _ _ _)
theorem jC (K:KS):∃l,K.l=K.l++l:=⟨[],by simp⟩
theorem Fu {f:ac} (K:KS) (x:aF):∃l,(ec f K x).l=K.l++l:=by
 have hp:∀p,∃l,(⟨K.l,p⟩:KS).l=K.l++l:=fun p=>⟨[],by simp⟩
 have hA:∃l,(eU f K x).l=K.l++l:=by
  unfold eU;split
  ·exact eW (dp _ _ _ _) (dp _ _ _ _)
  ·exact jC K
 unfold ec
 split
 ·unfold lN
  repeat' split
  ·exact eW (eW (hp _) (dp _ _ _ _)) (dp _ _ _ _)
  ·exact eW (eW (hp _) (dp _ _ _ _)) (dp _ _ _ _)
  ·exact eW (hp _) (dp _ _ _ _)
  ·exact eW (hp _) (dp _ _ _ _)
  ·exact hp _
  ·exact hp _
 ·unfold lM
  split
  ·exact eW (dp _ _ _ _) (dp _ _ _ _)
  split
  ·exact nD _ _ _
  split
  ·exact nD _ _ _
  split
  ·unfold mN
   split
   ·exact jC K
   split
   ·exact eW (jB _ _ _ _) (jB _ _ _ _)
   ·exact eW (eW (eW (jB _ _ _ _) (jB _ _ _ _)) (jB _ _ _ _)) (jB _ _ _ _)
  split
  ·unfold iX
   split
   ·exact eW hA (dp _ _ _ _)
   ·exact hA
  ·exact jC K
theorem vX {f:ac}:∀(l:List aF) (K:KS),∃m,(l.foldl (ec f) K).l=K.l++m
 |[],K=>jC K
 |x::l,K=>eW (Fu K x) (vX l (ec f K x))
theorem vY:∀(l:List ww) (K:KS),∃m,(l.foldl gu K).l=K.l++m
 |[],K=>jC K
 |r::l,K=>eW (by
   unfold gu
   repeat' split
   ·exact dp _ _ _ _
   ·exact dp _ _ _ _
   ·exact nD _ _ _
   ·exact jC K) (vY l (gu K r))
theorem BQ {f:ac} {K:KS} {t pr a9 a10:AV} {iw js jl jm jp:Nat} {M:List Int} (hR:b5 f) (hv:f.vars.length≤1000) (hK:KB f K) (bk:Nat) {v:Int} (hvv:bc f v=true) :
  aY prog E 73 [.po iw 0,.int .i64 v,dy bk] (iM f t pr a9 a10 iw js jl jm jp K M++[(0,iZ bk (mI []))]) (fun y O'=>∃O'',(∃es,y=.int .i64 (dK f K v)∧O''=[(0,iZ bk (mI es))])∧O'=iM f t pr a9 a10 iw js jl jm jp K M++O''):=by
 refine aY.lendTo (Q:=fun y O=>∃es,y=.int .i64 (dK f K v)∧O=[(0,iZ bk (mI es))]) Dv (fun I J y O v h hv=>?_) (fun I J y O B h hB=>?_) ((Ag f hR hv K hK t pr bk 100000 [] v hvv (hR.rk_low v) (Ec.emp f K)).mono fun y O ⟨es,h1,h2,_⟩=>⟨es,h1,h2⟩)
 ·obtain ⟨es,rfl,_⟩:=h
  exact hv
 ·obtain ⟨es,_,rfl⟩:=h
  exact Du hB
structure H3 (f:ac) (E:World):Prop where
 hf:small f
 hL:bz E
 hR:b5 f
 ht:bi f=true
 hs:dD f=true
def DT (f:ac) (iw js bm jd jl jm jp:Nat) (K:KS) (M:List Int) (T:List (gA × Int)) (D:List Int):OL:=[(iw,.cells 75 (lP f (ib f) (tS f) js jp K.p.length (dy bm) (.own jd f.blocks.length))),(js,.cells 136 [.int .i64 ((f.vars.length+1:Nat):Int),.own jl K.l.length,.own jm M.length]),(jl,.grow 3 180 (K.l.map b8).flatten),(jm,.grow 1 3 (cI M)),(jp,.grow 2 187 (K.p.map b9).flatten),(0,kr nB bm T),(jd,.grow 1 3 (cI D))]
def DU (E:World) (f:ac) (iw js bm jd:Nat) (m:Nat):Prop:=
 ∀(i:Nat) (b:aX) (V:Int→Bool) (jl jm jp:Nat) (K:KS) (M:List Int) (T:List (gA × Int)),f.blocks[i]?=some b→(f.blocks.length:Int) - gi (bO (ah f) f.blocks.length) i<m→GR f V i→K=vE f (Eb f i).tail→KB f K→IV f K i→(M.length:Int)≤gi (bO (ah f) f.blocks.length) i→gF f (fun m=>V m.1) T →
  aY prog E 38 [.po iw 0,.int .i64 i] (DT f iw js bm jd jl jm jp K M T (fy f V)) (fun y O=>∃g:Nat × Nat × Nat × List (gA × Int),y=.tup []∧O=DT f iw js bm jd g.1 g.2.1 g.2.2.1 K M g.2.2.2 (fy f fun j=>V j||fM (ah f) f.blocks.length i j)∧gF f (fun m=>V m.1||fM (ah f) f.blocks.length i m.1) g.2.2.2)
theorem vZ (f:ac) (hR:b5 f) (iw js bm jd:Nat):DU E f iw js bm jd 0:=by
 intro i b V jl jm jp K M T hb hm _ _ _ _ _ _
 have:=hR.lev (i:=i) (List.getElem?_eq_some_iff.1 hb).1
 omega
set_option maxHeartbeats 32000000 in
theorem v6 (f:ac) (hA:H3 f E) (iw js bm jd mm:Nat) (ih:DU E f iw js bm jd mm):DU E f iw js bm jd (mm+1):=by
 intro i b V jl jm jp K M T hb hm hV hKw hKB hPB hML hT
 obtain ⟨hf,hL,hR,ht,hs⟩:=hA
 have hi:=(List.getElem?_eq_some_iff.1 hb).1
 have hE:=hR.hE
 have hG:=hE.grph
 have hall:∀j:Int,0≤j→j<f.blocks.length→j∈aB (ah f) f.blocks.length:=fun j h0 h1=>hR.memO ⟨h0,h1⟩
 have ho:=hall i (by omega) (by omega)
 have hlv:=hR.lev hi
 have hnb:=hR.nblk
 have hVi:V (i:Int)=false:=hV.2 i (.refl (hR.hs.2.1 i hi))
 have hbm:=w4 hb
 have hbe:f.blocks[i]=b:=(List.getElem?_eq_some_iff.1 hb).2
 have hbg:=dQ hb
 have hvars:=hf.1
 obtain ⟨hf1,hf2,hf3,hf4,hf5⟩:=id hf
 obtain ⟨hb0,hb1,hb2,hb3,hb4⟩:=hf5 b hbm
 have hsm:=mQ _ _ hbm
 have hsh:=hR.hS.2.2.2.2.1
 have hInF:=hR.blkF (i:=(i:Int)) (by omega) (by omega)
 rw[hbg] at hInF
 have hKl:=hKB.len
 obtain ⟨K0,hK0⟩:∃K0,nY f K i=K0:=⟨_,rfl⟩
 have hK0B:KB f K0:=hK0▸hKB.entr hR i
 have hK0p:K0.p=K.p:=by rw[←hK0];exact tR _ _
 have hbegK:jY f i=K0:=by unfold jY;rw[←hKw];exact hK0
 have hat:∀k,B6 f (i:Int) k=(b.insts.take k).foldl (ec f) K0:=fun k=>by unfold B6;rw[hbg,←hKw,hK0]
 have hstB:∀k,KB f ((b.insts.take k).foldl (ec f) K0):=fun k=>KB.stps _ _ hK0B fun x hx=>hInF x (List.mem_of_mem_take hx)
 have hstP:∀k,vG ((b.insts.take k).foldl (ec f) K0).p:=fun k=>by
  obtain ⟨g1,g2,_⟩:=xX (f:=f) (b.insts.take k) K0 (fun x hx=>hb4 x (List.mem_of_mem_take hx)) (by rw[hK0p];exact hPB.2)
  have h1:=hPB.1
  have h2:(b.insts.take k).length≤b.insts.length:=by rw[w7];omega
  rw[hK0p] at g1
  exact ⟨by omega,g2⟩
 refine qa (γ:=Nat × Nat × Nat × List (gA × Int)) (x:=fun _=>.tup []) (M:=fun g=>DT f iw js bm jd g.1 g.2.1 g.2.2.1 K M g.2.2.2 (fy f fun j=>V j||fM (ah f) f.blocks.length i j)) (p:=fun g=>gF f (fun m=>V m.1||fM (ah f) f.blocks.length i m.1) g.2.2.2) ?_
 have push:=xG (E:=E) js jl jm (f.vars.length+1) K.l M (by omega) (by omega)
 have rel:=fun jm M=>BK (E:=E) (t:=ib f) (a9:=dy bm) (a10:=.own jd f.blocks.length) (iw:=iw) (js:=js) (jl:=jl) (jm:=jm) (jp:=jp) (M:=M) hf hL hR ht hs hKB hi
 have made:=fun jl jm jp K M hK hP x hF hty=>xK (E:=E) (f:=f) (K:=K) (t:=ib f) (pr:=tS f) (a9:=dy bm) (a10:=.own jd f.blocks.length) (iw:=iw) (js:=js) (jl:=jl) (jm:=jm) (jp:=jp) (M:=M) hvars hK hP x hF hty
 have pass:=fun jl jm jp K M hK hP x hF hc=>xL (E:=E) (f:=f) (K:=K) (t:=ib f) (pr:=tS f) (a9:=dy bm) (a10:=.own jd f.blocks.length) (iw:=iw) (js:=js) (jl:=jl) (jm:=jm) (jp:=jp) (M:=M) hvars hK hP x hF hc
 have prv:=fun jl jm jp K M (hK:KB f K) (hP:vG K.p) x (hF:bM f x) (hc:18≤x.op∧x.op≤24)=>lz (a9:=dy bm) (a10:=.own jd f.blocks.length) (iw:=iw) (js:=js) (jl:=jl) (jm:=jm) (jp:=jp) (M:=M) (fun _ _ _ h=>iO h) (tG (E:=E) (t:=ib f) (pr:=tS f) hvars hK hP x hF hc)
 unfold DT
 unfold DU DT at ih
 unfold rp at push
 unfold iM at rel made pass prv
 refine zp func38 Z (by decide) Z<|ai<|aJ Z<|ap Z<|za (zf j9 Z Z7 (by decide) Z Z)<|za (zo (c:=.po _ _) Zf Z ⟨_,.head⟩ Z)<|zu Z (zj (.r (.l (.l (.l (.r (.r (.r (.rest _))))))))) (push) ?_
 rintro r14 O14 ⟨jm1,rfl,rfl,_⟩
 refine z6<|zz (zb (zc .t6))<|zz (zb (zc .t6))<|zz (zb (zc .t6))<|zz (zb (zc .t5))<|zz (zb (zc .t5))<|zz (zb (zc .t5))<|zz (zb (zc .t6))<|ai<|aJ Z<|ap Z<|za (zf j9 Z sizeOf72 (by decide) Z Z)<|za (zo (c:=.own _ _) isAgg72 Z ⟨_,.head⟩ Z)<|za (qo Xk Z)<|ao Z<|z6<|ai<|aJ Z<|aa Z<|zu Z (zj (.l (.l (.l (.l (.l (.r (.r (.rest _))))))))) (rel jm1 (M++[(K.l.length:Int)])) ?_
 rintro r22 O22 ⟨jl1,rfl,rfl,_⟩
 refine z6 ?_
 rw[hK0]
 refine zz (zb (zc .t6))<|zz (zb (zc .t6))<|zz (zb (zc .t6))<|zz (zb (zc .t6))<|zz (zb (zc .t6))<|zz (zb (zc .t6))<|zz (zb (zc .t6))<|ai<|aJ Z<|ap Z<|za (zf j9 Z jj (by decide) Z Z)<|za (zf jg Z Z8 (by decide) Z Z)<|za (zo (c:=.fro _ _) Zg Z ⟨_,.head⟩ Z)<|aa Z<|za (bv i ju jx Z Z Z hb)<|ae Yo jx Z Z<|y7 (cs:=[.str ⟨#[]⟩,.raw (.slice none 0 0),.raw (.slice none 0 0),.int .i64 0,.int .i64 0,.int .i64 0,.int .i64 0]) Zl Z Z<|fun i5=>y1 jx Z Z Z Z Z Z .head Z<|ze (yd (t:=5) Z .head)<|z6<|zd<|ai<|au ji Z Zt Z Z<|aI Y9 Z<|aq Z0 Z<|aa Z<|z6 ?_
 have hT0:gF f (Dk V i 0) T:=hT.congr fun m hm=>by
  unfold kZ at hm
  rw[wa] at hm
  have h0:=wd hm.1
  unfold Dk
  rw[w9 (show ¬m.2<((0:Nat):Int) by omega),Bool.and_false,Bool.or_false]
 obtain ⟨M1,hM1⟩:∃M1,M++[(K.l.length:Int)]=M1:=⟨_,rfl⟩
 have hM1l:(M1.length:Int)=M.length+1:=by rw[←hM1];simp
 rw[hM1]
 refine zm<|y8 (γ:=Nat × Nat × Nat × List (gA × Int)) [0,1,4,5,32,33] (fun g=>[(34,.int .i64 g.1)]) (fun g=>[(iw,.cells 75 (lP f (ib f) (tS f) js g.2.2.1 ((b.insts.take g.1).foldl (ec f) K0).p.length (dy bm) (.own jd f.blocks.length))),(js,.cells 136 [.int .i64 ((f.vars.length+1:Nat):Int),.own g.2.1 ((b.insts.take g.1).foldl (ec f) K0).l.length,.own jm1 M1.length]),(g.2.1,.grow 3 180 (((b.insts.take g.1).foldl (ec f) K0).l.map b8).flatten),(jm1,.grow 1 3 (cI M1)),(g.2.2.1,.grow 2 187 (((b.insts.take g.1).foldl (ec f) K0).p.map b9).flatten),(0,kr nB bm g.2.2.2),(jd,.grow 1 3 (cI (fy f V)))]) (fun g=>g.1≤b.insts.length∧gF f (Dk V i g.1) g.2.2.2) (fun g=>b.insts.length - g.1) (0,jl1,jp,T) aK aH (⟨qw _,hT0⟩) ?_
 rintro ⟨k,jq,jr,T1⟩ ⟨hk,hT1⟩
 try dsimp only at *
 obtain ⟨Q,hQ⟩:∃Q,(b.insts.take k).foldl (ec f) K0=Q:=⟨_,rfl⟩
 have hQB:=hstB k
 have hQP:=hstP k
 have hatk:=hat k
 rw[hQ] at hQB hQP hatk
 rw[hQ]
 refine ai<|ay Z Z<|z6<|zd<|zt Z (fun ck=>?_) (fun ck=>?_)
 ·have hk2:k<b.insts.length:=by simp at ck;omega
  obtain ⟨x,hx⟩:∃x,b.insts[k]?=some x:=⟨_,qt hk2⟩
  have hxm:=w4 hx
  have hF:=hInF x hxm
  have hstep:(b.insts.take (k+1)).foldl (ec f) K0=ec f Q x:=by rw[List.take_add_one,hx,List.foldl_append,hQ];rfl
  have hpv:kZ f ((i:Int),(k:Int))=(nz x&&ox f Q x):=by rw[vO hb hx,hatk]
  refine zi<|zd<|zm<|ai<|aa Z<|za (bv k Z0 jy Z Z Z hx)<|ae Zz jy Z Z<|y7 (cs:=[.int .i64 0,.int .i64 0,.raw (.slice none 0 0),.int .i64 0]) Zh Z Z<|fun i7=>ao Z<|y1 jy Z Z Z Z Z Z .head Z<|ze (yd (t:=7) Z .head)<|z6<|zd<|ai<|au j5 Z Z2 Z Z<|aA Z4 Z<|zh (ri x.op) Z<|aC Z<|z6<|zy Z (fun c=>?_) (fun c=>?_)
  ·have c:¬(18≤x.op∧x.op≤24):=by simp at c;omega
   have hty:bc f x.dst=true∨¬x.op=1:=by
    by_cases e:x.op=1
    ·exact .inl (qW (hF.d e rfl))
    ·exact .inr e
   refine ai<|aJ Z<|ae Zz jy Z Z<|zu Z (zj (.l (.l (.l (.l (.l (.r (.r (.rest _))))))))) (made jq jm1 jr Q M1 hQB hQP x hF hty) ?_
   rintro r45 O45 ⟨j1,rfl,rfl,_⟩
   refine z6<|zz (zb (zc .t6))<|zz (zb (zc .t6))<|zz (zb (zc .t6))<|zz (zb (zc .t6))<|zz (zb (zc .t6))<|zz (zb (zc .t6))<|zz (zb (zc .t6))<|y6<|aW<|aE Z Z<|aa Z<|z6 ?_
   exact ⟨(k+1,j1,jr,T1),yI,aK,⟨_,(.refl _),by dsimp only;rw[hstep,ec,if_neg c]⟩,⟨hk2,hT1.skip (by rw[hpv,show nz x=false from w9 c];rfl)⟩,by dsimp only;omega⟩
  ·have c:18≤x.op∧x.op≤24:=by simpa using c
   have hck:nz x=true:=w8 c
   rw[hck,Bool.true_and] at hpv
   refine zi<|zd<|ai<|aJ Z<|ae Zz jy Z Z<|zu Z (zj (.l (.l (.l (.l (.l (.r (.r (.rest _))))))))) (prv jq jm1 jr Q M1 hQB hQP x hF c) ?_
   rintro r48 O48 ⟨rfl,rfl⟩
   refine z6<|zz (zb (zc .t6))<|zz (zb (zc .t6))<|zz (zb (zc .t6))<|zz (zb (zc .t6))<|zz (zb (zc .t6))<|zz (zb (zc .t6))<|zz (zb (zc .t6))<|ye (γ:=List (gA × Int)) [0,1,4,5,7,32,33,34] (fun g=>[]) (fun g=>[(iw,.cells 75 (lP f (ib f) (tS f) js jr Q.p.length (dy bm) (.own jd f.blocks.length))),(js,.cells 136 [.int .i64 ((f.vars.length+1:Nat):Int),.own jq Q.l.length,.own jm1 M1.length]),(jq,.grow 3 180 (Q.l.map b8).flatten),(jm1,.grow 1 3 (cI M1)),(jr,.grow 2 187 (Q.p.map b9).flatten),(0,kr nB bm g),(jd,.grow 1 3 (cI (fy f V)))]) (fun g=>gF f (Dk V i (k+1)) g) ?_ (fun _ _ h=>h) ?_
   ·refine zy Z (fun cp=>?_) (fun cp=>?_)
    ·refine aW<|aJ Z<|ap Z<|za (zf j9 Z sizeOf73 (by decide) Z Z)<|za (zo (c:=dy _) isAgg73 Z ⟨_,.head⟩ Z)<|aa Z<|aa Z<|za (y3 (cps:=[(0,[_]),(1,[_])]) (rs:=[_,_]) C5 Z Z Z)<|az.mapSetS (k:=((i:Int),(k:Int))) DF underlying73 Z Z Z .t5<|z6 ?_
     exact ⟨bU T1 ((i:Int),(k:Int)) 1,(by repeat (first|with_reducible exact y5 _ _|refine yn rfl ?_)),trivial,aH,hT1.put hVi (hpv.trans cp)⟩
    ·refine zi ?_
     exact ⟨T1,(by repeat (first|with_reducible exact y5 _ _|refine yn rfl ?_)),trivial,aH,hT1.skip (hpv.trans cp)⟩
   ·rintro T2 hT2
    refine aW<|aJ Z<|ae Zz jy Z Z<|zu Z (zj (.l (.l (.l (.l (.l (.r (.r (.rest _))))))))) (pass jq jm1 jr Q M1 hQB hQP x hF c) ?_
    rintro r58 O58 ⟨⟨j1,j2⟩,rfl,rfl,_⟩
    refine z6<|zz (zb (zc .t6))<|zz (zb (zc .t6))<|zz (zb (zc .t6))<|zz (zb (zc .t6))<|zz (zb (zc .t6))<|zz (zb (zc .t6))<|zz (zb (zc .t6))<|aW<|aE Z Z<|aa Z<|z6 ?_
    exact ⟨(k+1,j1,j2,T2),yI,aK,⟨_,(.refl _),by dsimp only;rw[hstep,ec,if_pos c]⟩,⟨hk2,hT2⟩,by dsimp only;omega⟩
 ·obtain rfl:k=b.insts.length:=by simp at ck;omega
  have hQe:xB f (jY f i) i=Q:=by unfold xB;rw[hbegK,hbg,←hQ,qy]
  obtain ⟨p1,p2,pm,p3⟩:=xX (f:=f) (b.insts.take b.insts.length) K0 (fun x hx=>hb4 x (List.mem_of_mem_take hx)) (by rw[hK0p];exact hPB.2)
  rw[hQ,hK0p] at p1 p3
  rw[hQ] at p2
  have hpre:∃l,Q.l=K.l++l:=eW (hK0▸vY _ K) (hQ▸vX _ K0)
  have hTl:=hT1.last hb
  have hv0:(fun m:gA=>V m.1||decide (m.1=(i:Int)))=fun m=>ig f V i [] m.1:=by funext m;unfold ig;simp
  rw[hv0] at hTl
  have hds:(fy f V).set i (jA f i)=fy f (ig f V i []):=DA hi (by unfold ig;simp) (fun j hj=>by unfold ig;simp[hj])
  refine y6<|zd<|ai<|au ji Z Zo Z Z<|au je Z Y0 Z Z<|aA Ye Z<|ak Z Z<|z6<|ye (γ:=Unit) [0,1,4] (fun u=>[]) (fun u=>[(iw,.cells 75 (lP f (ib f) (tS f) js jr Q.p.length (dy bm) (.own jd f.blocks.length))),(js,.cells 136 [.int .i64 ((f.vars.length+1:Nat):Int),.own jq Q.l.length,.own jm1 M1.length]),(jq,.grow 3 180 (Q.l.map b8).flatten),(jm1,.grow 1 3 (cI M1)),(jr,.grow 2 187 (Q.p.map b9).flatten),(0,kr nB bm T1),(jd,.grow 1 3 (cI (fy f (ig f V i []))))]) (fun u=>True) ?_ (fun _ _ h=>h) ?_
  ·refine zt Z (fun ct=>?_) (fun ct=>?_)
   ·have ct:b.term.kind=1:=ct
    have hvk:bc f b.term.var=true:=by
     have h1:=(hR.run.term _ hbm)
     unfold bC at h1
     rw[if_neg (by omega),if_pos ct] at h1
     simp only[wa] at h1
     exact h1.1.1
    have hdo:dK f Q b.term.var=jA f i:=by unfold jA;rw[hbg,if_pos ct,hQe];rfl
    have dec:=fun bk=>BQ (E:=E) (t:=ib f) (pr:=tS f) (a9:=dy bm) (a10:=.own jd f.blocks.length) (iw:=iw) (js:=js) (jl:=jq) (jm:=jm1) (jp:=jr) (M:=M1) hR hvars hQB bk hvk
    unfold iM at dec
    rw[hdo] at dec
    refine zr (fun j=>Nat.beq j 12) (by kernel_rfl) Z (zj (.rest _))<|ad 0 Z (cJ Z)<|ad 1 Z (zw Z)<|ad 2 Z (zf j9 Z j7 (by decide) Z Z)<|ad 4 Z (cD Z)<|ad 5 Z (cJ Z)<|ad 6 Z (bK ji Z Zo Z Z)<|ad 7 Z (bK je Z wz Z Z)<|ad 8 Z (cQ j6 Z)<|yr (i:=3) (j:=9) Z Z (by kernel_rfl) ?_ ?_
    ·refine za (zo (c:=.own _ _) jf Z ⟨_,.head⟩ Z)<|z6<|aQ 9 Z<|az.makeMapA<|fun b73=>ze (zb (zc .t5))<|ze (zb (zc .t5))<|ze (zb (zc .t5))<|ze (zb (zc .t5))<|ze (zb (zc .t5))<|z6<|aQ 10 Z<|zu Z (zj (.l (.l (.l (.l (.l (.l (.r (.r (.rest _)))))))))) (dec b73) ?_
     rintro r74 O74 ⟨_,⟨es,rfl,rfl⟩,rfl⟩
     refine z6<|aQ 11 Z<|za (yi (j:=i) wy wz Z Z Z ⟨_,.t7⟩ ((aD _).trans (fp f V)) hi)<|z6<|yf<|yh (i:=12) Z (by kernel_rfl) (by kernel_rfl)<|yy (j:=i) wz Z Z .t7 (by rw[fp];exact hi)<|z6<|ym (by kernel_rfl) ?_
     exact ⟨(),(by repeat (first|with_reducible exact y5 _ _|refine yn rfl ?_)),trivial,⟨_,(.keep (.keep (.keep (.keep (.keep (.drop (.refl _))))))),by rw[hds]⟩,trivial⟩
    ·refine az.makeMapA<|fun b73=>ze (zb (zc .t5))<|ze (zb (zc .t5))<|ze (zb (zc .t5))<|ze (zb (zc .t5))<|ze (zb (zc .t5))<|z6<|yr (i:=3) (j:=10) Z Z (by kernel_rfl) ?_ ?_
     ·refine za (zo (c:=.own _ _) jf Z ⟨_,.head⟩ Z)<|z6<|aQ 10 Z<|zu Z (zj (.l (.l (.l (.l (.l (.l (.r (.r (.rest _)))))))))) (dec b73) ?_
      rintro r74 O74 ⟨_,⟨es,rfl,rfl⟩,rfl⟩
      refine z6<|aQ 11 Z<|za (yi (j:=i) wy wz Z Z Z ⟨_,.t7⟩ ((aD _).trans (fp f V)) hi)<|z6<|yf<|yh (i:=12) Z (by kernel_rfl) (by kernel_rfl)<|yy (j:=i) wz Z Z .t7 (by rw[fp];exact hi)<|z6<|ym (by kernel_rfl) ?_
      exact ⟨(),(by repeat (first|with_reducible exact y5 _ _|refine yn rfl ?_)),trivial,⟨_,(.keep (.keep (.keep (.keep (.keep (.drop (.refl _))))))),by rw[hds]⟩,trivial⟩
     ·refine zu Z (zj (.l (.l (.l (.l (.l (.l (.r (.r (.rest _)))))))))) (dec b73) ?_
      rintro r74 O74 ⟨_,⟨es,rfl,rfl⟩,rfl⟩
      refine z6<|aQ 3 Z<|za (zo (c:=.own _ _) jf Z ⟨_,.head⟩ Z)<|z6<|aQ 11 Z<|za (yi (j:=i) wy wz Z Z Z ⟨_,.t7⟩ ((aD _).trans (fp f V)) hi)<|z6<|yf<|yh (i:=12) Z (by kernel_rfl) (by kernel_rfl)<|yy (j:=i) wz Z Z .t7 (by rw[fp];exact hi)<|z6<|ym (by kernel_rfl) ?_
      exact ⟨(),(by repeat (first|with_reducible exact y5 _ _|refine yn rfl ?_)),trivial,⟨_,(.keep (.keep (.keep (.keep (.keep (.drop (.refl _))))))),by rw[hds]⟩,trivial⟩
   ·have ct:¬b.term.kind=1:=ct
    have hdo:jA f i=0:=by unfold jA;rw[hbg,if_neg ct]
    have hsame:fy f V=fy f (ig f V i []):=by
     rw[←hds,hdo]
     refine List.ext_getElem? fun q=>?_
     by_cases e:i=q
     ·subst e
      rw[List.getElem?_set_self (by rw[fp];exact hi),mT hi,hVi];rfl
     ·rw[List.getElem?_set_ne e]
    refine zi ?_
    exact ⟨(),(by repeat (first|with_reducible exact y5 _ _|refine yn rfl ?_)),trivial,⟨_,(.refl _),by rw[hsame]⟩,trivial⟩
  ·rintro u _
   obtain ⟨kl,hkl⟩:∃kl,d6 (ah f) f.blocks.length i=kl:=⟨_,rfl⟩
   have hkn2:kl.Nodup:=hkl▸xN (i:Int)
   have hkm:∀c∈kl,c∈d6 (ah f) f.blocks.length i:=fun c hc=>by rw[hkl];exact hc
   have hkll:kl.length≤1000:=by
    rw[←hkl];unfold d6
    exact Nat.le_trans (List.length_filter_le _ _) (by rw[bS];exact hf3)
   have hkids:=xW (E:=E) f hE hf3 hi ho .any
   rw[hkl] at hkids
   refine zd<|ai<|aJ Z<|ap Z<|za (zf j9 Z sizeOf68 (by decide) Z Z)<|za (zo (c:=.pf _) isAgg68 Z ⟨_,.head⟩ Z)<|aa Z<|zh (hkids) Z<|aq wy Z<|aa Z<|z6<|zm<|y8 (γ:=Nat × Nat × Nat × Nat × List (gA × Int)) [0,4,81,82] (fun g=>[(83,.int .i64 g.1)]) (fun g=>[(iw,.cells 75 (lP f (ib f) (tS f) js g.2.2.2.1 Q.p.length (dy bm) (.own jd f.blocks.length))),(js,.cells 136 [.int .i64 ((f.vars.length+1:Nat):Int),.own g.2.1 Q.l.length,.own g.2.2.1 M1.length]),(g.2.1,.grow 3 180 (Q.l.map b8).flatten),(g.2.2.1,.grow 1 3 (cI M1)),(g.2.2.2.1,.grow 2 187 (Q.p.map b9).flatten),(0,kr nB bm g.2.2.2.2),(jd,.grow 1 3 (cI (fy f (ig f V i (kl.take g.1)))))]) (fun g=>g.1≤kl.length∧gF f (fun m=>ig f V i (kl.take g.1) m.1) g.2.2.2.2) (fun g=>kl.length - g.1) (0,jq,jm1,jr,T1) aK aH (⟨qw _,hTl⟩) ?_
   rintro ⟨q,ja,jb,jc,T2⟩ ⟨hq,hT2⟩
   try dsimp only at *
   refine ai<|ay Z Z<|z6<|zd<|zt Z (fun cq=>?_) (fun cq=>?_)
   ·have hq2:q<kl.length:=by simp at cq;omega
    have hcm:=hkm _ (qx hq2)
    obtain ⟨⟨c0,c1⟩,cne,cnear⟩:=(qU hG hall (by omega)).1 hcm
    obtain ⟨cn,hcn⟩:∃cn:Nat,kl[q]=(cn:Int):=⟨kl[q].toNat,by omega⟩
    have hcl2:cn<f.blocks.length:=by omega
    obtain ⟨hk1,hk2,hk3,hk4⟩:=lD hG hall (by omega) hcm
    have hVc:=Fl hG hall (by omega) hV hq2 hkm hkn2
    rw[hcn] at hk1 hk4 hVc cnear cne
    have hway:Q=vE f (Eb f cn).tail:=by rw[Fm hR ⟨by omega,by omega⟩ cne cnear,hQe]
    have hPBc:IV f Q (cn:Int):=by
     have h1:=hPB.1
     rw[qy] at p1
     exact ⟨by rw[hk4];omega,p2⟩
    have hvn:(fun m:gA=>ig f V i (kl.take q) m.1||fM (ah f) f.blocks.length cn m.1)=fun m=>ig f V i (kl.take (q+1)) m.1:=by funext m;rw[←hcn];exact vN hq2 m.1
    have hvn2:(fun j:Int=>ig f V i (kl.take q) j||fM (ah f) f.blocks.length cn j)=ig f V i (kl.take (q+1)):=by funext j;rw[←hcn];exact vN hq2 j
    refine zi<|zd<|zm<|ai<|za (bv q wy wz Z Z Z (by rw[qt hq2,hcn])) ?_
    refine aA j6 Z<|ao Z<|z6<|aW<|aJ Z<|aa Z<|zu Z (zj (.l (.l (.l (.l (.l (.l (.l (.rest _))))))))) (ih cn f.blocks[cn] (ig f V i (kl.take q)) ja jb jc Q M1 T2 (qt hcl2) (by omega) hVc hway hQB hPBc (by omega) hT2) ?_
    rintro r89 O89 ⟨⟨j1,j2,j3,T3⟩,rfl,rfl,h1⟩
    refine z6<|aW<|aE Z Z<|aa Z<|z6 ?_
    exact ⟨(q+1,j1,j2,j3,T3),gH,aK,⟨_,(.refl _),by dsimp only;rw[hvn2,w6]⟩,⟨hq2,by rw[←hvn];exact h1⟩,by dsimp only;omega⟩
   ·obtain rfl:q=kl.length:=by simp at cq;omega
    rw[qy] at hT2
    rw[qy]
    obtain ⟨lq,hlq⟩:=hpre
    have htk:((Q.p.map b9).flatten).take (K.p.length*2)=(K.p.map b9).flatten:=by
     rw[p3,w5,List.flatten_append,List.take_append_of_le_length (by rw[oM];exact Nat.le_refl _),List.take_of_length_le (by rw[oM];exact Nat.le_refl _)]
    have hdec:fy f (ig f V i kl)=fy f fun j=>V j||fM (ah f) f.blocks.length i j:=xO fun j h0 h1=>by rw[←hkl];exact zX hG hall (by omega) h0 h1
    have hTf:gF f (fun m=>V m.1||fM (ah f) f.blocks.length i m.1) T2:=hT2.congr fun m hm=>by
     unfold kZ at hm
     rw[wa] at hm
     have h0:=wd hm.1
     have h1:m.1<f.blocks.length:=Classical.byContradiction fun hn=>by
      have h2:=hm.2
      have h3:(bT f m.1).insts=[]:=by unfold bT;rw[List.getElem?_eq_none (by omega)];rfl
      rw[h3] at h2
      simp at h2
     rw[←hkl];exact zX hG hall (by omega) h0.1 h1
    have pop:=BA (E:=E) js ja jb (f.vars.length+1) Q.l M K.l.length (by rw[hlq,qz];omega) (by omega)
    rw[hM1] at pop
    have hlt:Q.l.take K.l.length=K.l:=by rw[hlq,List.take_left]
    rw[hlt] at pop
    unfold rp at pop
    refine y6<|ai<|aJ Z<|aJ Z<|ap Z<|za (zf j9 Z sizeOf72 (by decide) Z Z)<|za (zo (c:=.own _ _) isAgg72 Z ⟨_,.head⟩ Z)<|aa Z<|az.cutTo (j:=K.p.length) Xk sizeOf187 Z Z Z .t4 (by decide) (by rw[oM,p3,qz];omega)<|ap Z<|za (zf j9 Z sizeOf72 (by decide) Z Z)<|yq (l:=[_]) (new:=[_,_,_,_,_,_,_,_,_,_,_]) sizeOf72 Z Z Z Z Z Z .head Z Z<|z6<|aW<|aJ Z<|ap Z<|za (zf j9 Z Z7 (by decide) Z Z)<|za (zo (c:=.po _ _) Zf Z ⟨_,.head⟩ Z)<|zu Z (zj (.r (.l (.l (.l (.r (.r (.r (.rest _))))))))) (pop) ?_
    rintro r104 O104 ⟨rfl,rfl⟩
    refine z6<|y9 (zb (zc .t6))<|y9 (zb (zc .t6))<|y9 (zb (zc .t6))<|y9 (zb (zc .t5))<|y9 (zb (zc .t5))<|y9 (zb (zc .t5))<|y9 (zb (zc .t6))<|yl ?_
    exact ⟨(ja,jb,jc,T2),rfl,⟨_,.refl _,by rw[htk,hdec];rfl⟩,hTf⟩
theorem rj (f:ac) (hA:H3 f E) (iw js bm jd:Nat):∀m,DU E f iw js bm jd m
 |0=>vZ f hA.hR iw js bm jd
 |m+1=>v6 f hA iw js bm jd m (rj f hA iw js bm jd m)
end Go.Proofs.YtdilpodccjlkgaaGreatDoor
namespace Go.Proofs.YtdilpodccjlkgaaGreatDoor
open Go.Proofs.Tryz
open Go.Proofs Go.Lib Go.Shelf Go.RowKit
variable {E:World}
set_option maxRecDepth 20000
theorem GU {f:ac} (K:KS) (v:Int):(gE f K v).p=K.p:=by
 unfold gE;repeat' split
 ·rw[cP,cP]
 ·exact lA ..
 ·rfl
theorem tU {f:ac}:∀(l:List Int) (K:KS),(l.foldl (gE f) K).p=K.p
 |[],_=>rfl
 |v::l,K=>by rw[List.foldl_cons,tU l,GU]
theorem GV {f:ac} {K:KS} (h:KB f K) {v:Int} (hv:aU f v):KB f (gE f K v):=by
 unfold gE
 split
 ·exact (h.add hv fZ).add fZ hv
 ·split
  ·exact h.both hv fZ
  ·exact h
theorem DV {f:ac}:∀(l:List Int) (K:KS),KB f K→(∀v∈l,aU f v)→KB f (l.foldl (gE f) K)
 |[],_,h,_=>h
 |v::l,K,h,hl=>by rw[List.foldl_cons];exact DV l _ (GV h (hl v (.head _))) fun u hu=>hl u (.tail _ hu)
set_option maxHeartbeats 4000000 in
theorem v7 {f:ac} {t pr a9 a10:AV} {iw js jl jm jp:Nat} {M:List Int} (hf:small f) :
  aY prog E 37 [.po iw 0] (iM f t pr a9 a10 iw js jl jm jp ⟨[],[]⟩ M) (fun y O=>∃g:Nat,y=.tup []∧O=iM f t pr a9 a10 iw js g jm jp (dF f) M∧True):=by
 refine qa (γ:=Nat) (x:=fun g=>.tup []) (M:=fun g=>iM f t pr a9 a10 iw js g jm jp (dF f) M) (p:=fun _=>True) ?_
 have add:=fun jl K hK a b (ha:aU f a) (hb:aU f b) c=>gR (E:=E) (js:=js) (jm:=jm) (M:=M) jl K hK ha hb c
 have same:=fun jl K hK a b (ha:aU f a) (hb:aU f b)=>md (E:=E) (t:=t) (pr:=pr) (a9:=a9) (a10:=a10) (iw:=iw) (js:=js) (jm:=jm) (M:=M) jl jp 0 K hK ha hb
 have hvars:=hf.1
 have hf1:dF f=(bx f.vars.length).foldl (gE f) ⟨[],[]⟩:=rfl
 rw[hf1]
 unfold iM at *
 refine zp func37 Z (by decide) Z<|ai<|aJ Z<|ap Z<|za (zf j9 Z jj (by decide) Z Z)<|za (zf jg Z Yc (by decide) Z Z)<|za (zo (c:=.fro _ _) Yn Z ⟨_,.head⟩ Z)<|aq Z9 Z<|aa Z<|z6<|zm<|y8 (γ:=Nat × Nat) [0,8,9] (fun g=>[(10,.int .i64 g.1)]) (fun g=>[(iw,.cells 75 (lP f t pr js jp (⟨[],[]⟩:KS).p.length a9 a10)),(js,.cells 136 [.int .i64 ((f.vars.length+1:Nat):Int),.own g.2 (((bx f.vars.length).take g.1).foldl (gE f) ⟨[],[]⟩).l.length,.own jm M.length]),(g.2,.grow 3 180 ((((bx f.vars.length).take g.1).foldl (gE f) ⟨[],[]⟩).l.map b8).flatten),(jm,.grow 1 3 (cI M)),(jp,.grow 2 187 ((⟨[],[]⟩:KS).p.map b9).flatten)]) (fun g=>g.1≤f.vars.length) (fun g=>f.vars.length - g.1) (0,jl) aK aH (qw _) ?_
 rintro ⟨v,jq⟩ hv
 try dsimp only at *
 have hKB:KB f (((bx f.vars.length).take v).foldl (gE f) ⟨[],[]⟩):=DV _ _ (KB.emp f) fun u hu=>by
  have:=cK.1 (List.mem_of_mem_take hu)
  exact ⟨this.1,by omega⟩
 have hKp:=tU (f:=f) ((bx f.vars.length).take v) ⟨[],[]⟩
 refine ai<|ay Z Z<|z6<|zd<|zt Z (fun cv=>?_) (fun cv=>?_)
 ·have hv2:v<f.vars.length:=by simp at cv;omega
  have hvv:bc f (v:Int)=true:=by unfold bc;simp;omega
  have hvN:aU f (v:Int):=⟨by omega,by omega⟩
  have nn:aU f (dW f):=fZ
  obtain ⟨vr,hx,hvt,hkt⟩:=kL hvv
  clear hvt
  rw[Int.toNat_natCast] at hx
  obtain ⟨_,hmk⟩:=gd hvv
  rw[Int.toNat_natCast] at hmk
  have hstep:((bx f.vars.length).take (v+1)).foldl (gE f) ⟨[],[]⟩=gE f (((bx f.vars.length).take v).foldl (gE f) ⟨[],[]⟩) (v:Int):=by rw[List.take_add_one,eM hv2,List.foldl_append];rfl
  obtain ⟨Q,hQ⟩:∃Q,((bx f.vars.length).take v).foldl (gE f) ⟨[],[]⟩=Q:=⟨_,rfl⟩
  rw[hQ] at hKB hKp hstep
  rw[hQ]
  refine zi<|zd<|zm<|ai<|aa Z<|za (bv v Z9 Yd Z Z Z hx)<|ae isAgg61 Yd Z Z<|y7 (cs:=[.str ⟨#[]⟩,.int .i64 0]) zeroValue61 Z Z<|fun i3=>ao Z<|y1 Yd Z Z Z Z Z Z .head Z<|ze (yd (t:=3) Z .head)<|z6<|zm<|ai<|au Zm Z X2 Z Z<|aA Xh Z<|ak Z Z<|ab Z<|z6<|zt Z (fun c2=>?_) (fun c2=>?_)
  ·have hre:gE f Q (v:Int)=em (em Q (v:Int) (dW f) 64) (dW f) (v:Int) 0:=by unfold gE;rw[if_pos (hkt.trans c2)]
   refine zd<|zr (fun j=>false) (by kernel_rfl) Z (zj (.r (.rest _)))<|ad 0 Z (cJ Z)<|ad 1 Z (zw Z)<|ad 2 Z (zf j9 Z Z7 (by decide) Z Z)<|ad 3 Z (zo (c:=.po _ _) Zf Z ⟨_,.head⟩ Z)<|ad 4 Z (cD Z)<|ad 5 Z (cJ Z)<|ad 6 Z (zw Z)<|ad 7 Z (zf j9 Z wz (by decide) Z Z)<|ad 8 Z (zo (c:=.int _ _) j6 Z ⟨_,.head⟩ Z)<|aQ 9 Z<|zu Z (zj (.l (.l (.l (.r (.rest _)))))) (add jq Q hKB _ _ hvN nn 64) ?_
   rintro r28 O28 ⟨⟨j1,u1⟩,rfl,rfl,_⟩
   refine z6<|bI<|zz (zb (zc .t4))<|zz (zb (zc .t4))<|zz (zb (zc .t4))<|zz (zb (zc .t4))<|zz (zb (zc .t4))<|zr (fun j=>false) (by kernel_rfl) Z (zj (.r (.rest _)))<|ad 0 Z (cJ Z)<|ad 1 Z (zw Z)<|ad 2 Z (zf j9 Z Z7 (by decide) Z Z)<|ad 3 Z (zo (c:=.po _ _) Zf Z ⟨_,.head⟩ Z)<|ad 4 Z (cJ Z)<|ad 5 Z (zw Z)<|ad 6 Z (zf j9 Z wz (by decide) Z Z)<|ad 7 Z (zo (c:=.int _ _) j6 Z ⟨_,.head⟩ Z)<|ad 8 Z (cD Z)<|aQ 9 Z<|zu Z (zj (.l (.l (.l (.r (.rest _)))))) (add j1 _ (hKB.add (c:=64) hvN nn) _ _ nn hvN 0) ?_
   rintro r38 O38 ⟨⟨j2,u2⟩,rfl,rfl,_⟩
   refine z6<|bI<|zz (zb (zc .t4))<|zz (zb (zc .t4))<|zz (zb (zc .t4))<|zz (zb (zc .t4))<|zz (zb (zc .t4))<|aW<|aE Z Z<|aa Z<|z6 ?_
   exact ⟨(v+1,j2),db,aK,⟨_,(.refl _),by rw[hstep,hre]⟩,hv2,by dsimp only;omega⟩
  ·have c2:¬bg f (v:Int)=2:=by rw[hkt];exact c2
   refine zd<|ye (γ:=Bool) [0,2,8,9,10] (fun u=>[(39,.bool u)]) (fun u=>[(iw,.cells 75 (lP f t pr js jp (⟨[],[]⟩:KS).p.length a9 a10)),(js,.cells 136 [.int .i64 ((f.vars.length+1:Nat):Int),.own jq Q.l.length,.own jm M.length]),(jq,.grow 3 180 (Q.l.map b8).flatten),(jm,.grow 1 3 (cI M)),(jp,.grow 2 187 ((⟨[],[]⟩:KS).p.map b9).flatten)]) (fun u=>u=decide (bg f (v:Int)=0∧(f.params.length:Int)≤(v:Int)∧(aL f (v:Int)).1<0)) ?_ (fun _ _ h=>h) ?_
   ·refine aW<|au Zm Z X2 Z Z<|aA Xh Z<|ak Z Z<|aj Z<|zq (s:=43) Z (fun c1=>?_) (fun c1=>?_)
    ·refine z8 Z Z c1<|aa Z<|z8 Z Z c1<|aJ Z<|z8 Z Z c1<|ap Z<|z8 Z Z c1<|za (zf j9 Z jj (by decide) Z Z)<|z8 Z Z c1<|za (zf jg Z j7 (by decide) Z Z)<|z8 Z Z c1<|za (zo (c:=.fro _ _) jf Z ⟨_,.head⟩ Z)<|z8 Z Z c1<|aq wy Z<|z8 Z Z c1<|za (q5 Z Z)<|aw Z c1 Z<|aj Z<|zq (s:=53) Z (fun c2=>?_) (fun c2=>?_)
     ·refine z8 Z Z c2<|aJ Z<|z8 Z Z c2<|ap Z<|z8 Z Z c2<|za (zf j9 Z Yu (by decide) Z Z)<|z8 Z Z c2<|za (zo (c:=.fro _ _) Xe Z ⟨_,.head⟩ Z)<|z8 Z Z c2<|aa Z<|z8 Z Z c2<|za (bv v Zw Yt Z Z Z hmk)<|z8 Z Z c2<|au Zp Z wz Z Z<|z8 Z Z c2<|aA j6 Z<|z8 Z Z c2<|ay Z Z<|aw Z c2 Z<|ab Z<|z6 ?_
      exact ⟨_,(by repeat (first|with_reducible exact y5 _ _|refine yn rfl ?_)),aK,aH,by rw[hkt];clear add same;simp_all<;>(intros;omega)⟩
     ·refine z7 Z Z c2<|z7 Z Z c2<|z7 Z Z c2<|z7 Z Z c2<|z7 Z Z c2<|z7 Z Z c2<|z7 Z Z c2<|z7 Z Z c2<|z7 Z Z c2<|ax Z c2 Z<|ab Z<|z6 ?_
      exact ⟨_,(by repeat (first|with_reducible exact y5 _ _|refine yn rfl ?_)),aK,aH,by rw[hkt];clear add same;simp_all<;>(intros;omega)⟩
    ·refine z7 Z Z c1<|z7 Z Z c1<|z7 Z Z c1<|z7 Z Z c1<|z7 Z Z c1<|z7 Z Z c1<|z7 Z Z c1<|z7 Z Z c1<|ax Z c1 Z<|aj Z<|z7 Z Z Z<|z7 Z Z Z<|z7 Z Z Z<|z7 Z Z Z<|z7 Z Z Z<|z7 Z Z Z<|z7 Z Z Z<|z7 Z Z Z<|z7 Z Z Z<|ax Z Z Z<|ab Z<|z6 ?_
     exact ⟨_,(by repeat (first|with_reducible exact y5 _ _|refine yn rfl ?_)),aK,aH,by rw[hkt];clear add same;simp_all<;>(intros;omega)⟩
   ·rintro u hu
    refine zy Z (fun cu=>?_) (fun cu=>?_)
    ·have hre:gE f Q (v:Int)=iz Q (v:Int) (dW f):=by unfold gE;rw[if_neg c2,if_pos (wd (hu▸cu))]
     refine aW<|aJ Z<|aa Z<|aJ Z<|ap Z<|za (zf j9 Z wz (by decide) Z Z)<|za (zo (c:=.int _ _) j6 Z ⟨_,.head⟩ Z)<|zu Z (zj (.l (.l (.l (.l (.r (.rest _))))))) (same jq Q hKB _ _ hvN nn) ?_
     rintro r70 O70 ⟨j1,rfl,rfl,_⟩
     refine z6<|zz (zb (zc .t4))<|zz (zb (zc .t4))<|zz (zb (zc .t4))<|zz (zb (zc .t4))<|zz (zb (zc .t4))<|aW<|aE Z Z<|aa Z<|z6 ?_
     exact ⟨(v+1,j1),db,aK,⟨_,(.refl _),by rw[hstep,hre];rfl⟩,hv2,by dsimp only;omega⟩
    ·have hre:gE f Q (v:Int)=Q:=by unfold gE;rw[if_neg c2,if_neg (we (hu▸cu))]
     refine zi<|aW<|aE Z Z<|aa Z<|z6 ?_
     exact ⟨(v+1,jq),db,aK,⟨_,(.refl _),by rw[hstep,hre]⟩,hv2,by dsimp only;omega⟩
 ·obtain rfl:v=f.vars.length:=by simp at cv;omega
  have htk:(bx f.vars.length).take f.vars.length=bx f.vars.length:=List.take_of_length_le (by rw[bS];exact Nat.le_refl _)
  rw[htk]
  refine y6<|yl ?_
  exact ⟨jq,rfl,⟨_,.refl _,by rw[tU]⟩,trivial⟩
end Go.Proofs.YtdilpodccjlkgaaGreatDoor
namespace Go.Proofs.YtdilpodccjlkgaaGreatDoor
open Go.Proofs.Tryz
open Go.Proofs Go.Lib Go.Shelf Go.RowKit
theorem II:dB prog 75 #[(0,3),(3,1),(4,1),(5,1),(6,1),(7,1),(8,1),(9,1),(10,1)] [.raw (.slice none 0 0),.raw (.slice none 0 0),.raw (.slice none 0 0),.raw (.pointer none),.raw (.slice none 0 0),.raw (.slice none 0 0),.raw (.pointer none),.int .i64 0,.raw (.slice none 0 0),.raw (.map none),.raw (.slice none 0 0)]:=⟨_,_,j9,zeroValue75,fun w=>by kernel_rfl,rfl⟩
variable {E:World}
set_option maxRecDepth 20000
def GW (f:ac):Bool:=bi f&&(dD f&&jU f)
theorem DW (f:ac):fy f (fun _=>false)=List.replicate f.blocks.length 0:=by
 unfold fy
 refine List.ext_getElem? fun j=>?_
 rw[w2,List.getElem?_replicate]
 split
 ·rename_i h;rw[eM h];rfl
 ·rename_i h;rw[List.getElem?_eq_none (by rw[bS];omega)];rfl
set_option maxHeartbeats 4000000 in
theorem lR (f:ac) (hA:H3 f E) (hp:GW f=true):aY prog E 18 [.agg (bE f)] []
  (fun y O=>∃g:Nat × Nat × Nat × Nat × Nat × Nat × Nat × List (gA × Int),y=.tup [.po g.1 0,.int .i64 0]∧O=DT f g.1 g.2.1 g.2.2.1 g.2.2.2.1 g.2.2.2.2.1 g.2.2.2.2.2.1 g.2.2.2.2.2.2.1 (dF f) [] g.2.2.2.2.2.2.2 (fy f fun j=>fM (ah f) f.blocks.length 0 j)∧gF f (fun m=>fM (ah f) f.blocks.length 0 m.1) g.2.2.2.2.2.2.2):=by
 obtain ⟨hf,hL,hR,ht,hs⟩:=id hA
 have hf3:=hf.2.2.1
 have hvars:=hf.1
 have hnb:=hR.nblk
 have h1:=p7 (E:=E) f hf hL
 rw[if_pos (by unfold GW at hp;rw[hp])] at h1
 have h2:=vo (E:=E) f hf hL ht
 have h3:=kS (E:=E) f hf hL ht
 have h4:=nR (E:=E) f hf hL ht
 have h5:=BB (E:=E) (f.vars.length+1) (by omega)
 have hpos:=hR.run.pos
 have hE:=hR.hE
 have hG:=hE.grph
 obtain ⟨b0,hb0⟩:∃b,f.blocks[0]?=some b:=⟨_,qt (by omega)⟩
 have hl0:=hR.lev (i:=0) (by omega)
 have hfp:(dF f).p=[]:=tU (f:=f) (bx f.vars.length) ⟨[],[]⟩
 have hblk:=fun iw js bm jd jl jm jp=>rj (E:=E) f hA iw js bm jd (f.blocks.length+1) 0 b0 (fun _=>false) jl jm jp (dF f) [] [] hb0 (by omega) ⟨fun j hj hne=>absurd (fk hG hj (.root hj.rch)) (by simpa using hne),fun _ _=>rfl⟩ (Dz hR).symm KB.first ⟨by rw[hfp];have:=hl0.1;show ((0:Nat):Int)≤1100*_;omega,by rw[hfp];exact fun q hq=>(by cases hq)⟩ (by simpa using hl0.1) (gF.emp f)
 have hfir:=fun iw js jl jm jp bm jd=>v7 (E:=E) (f:=f) (t:=ib f) (pr:=tS f) (a9:=dy bm) (a10:=.own jd f.blocks.length) (iw:=iw) (js:=js) (jl:=jl) (jm:=jm) (jp:=jp) (M:=[]) hf
 have hdm:=DW f
 refine qa (γ:=Nat × Nat × Nat × Nat × Nat × Nat × Nat × List (gA × Int)) (x:=fun g=>.tup [.po g.1 0,.int .i64 0]) (M:=fun g=>DT f g.1 g.2.1 g.2.2.1 g.2.2.2.1 g.2.2.2.2.1 g.2.2.2.2.2.1 g.2.2.2.2.2.2.1 (dF f) [] g.2.2.2.2.2.2.2 (fy f fun j=>fM (ah f) f.blocks.length 0 j)) (p:=fun g=>gF f (fun m=>fM (ah f) f.blocks.length 0 m.1) g.2.2.2.2.2.2.2) ?_
 unfold DT
 unfold DT at hblk
 unfold iM at hfir
 unfold rp at h5
 unfold bE at *
 refine zp func18 Z (by decide) Z<|ai<|ya (cs:=_) Z Z Z<|za (jI Z)<|ao Z<|z6<|zd<|ai<|ae jv jj Z Z<|zh (h1) Z<|ao Z<|z6<|ai<|aa Z<|aO Z Z<|z6<|yg Z Z<|zi<|ai<|ae jv jj Z Z<|zh (h2) Z<|za (ke Z)<|za (q9 (v:=.pf _) Z Z)<|za (iN Z Z)<|za (qi (v:=.pf _) Z)<|ao Z<|z6<|zd<|ai<|aa Z<|aO Z Z<|z6<|yg Z Z<|zi<|zd<|zr (fun j=>false) (by kernel_rfl) Z (zj (.rest _))<|ad 0 Z (yw jv jj Z Z)<|ad 1 Z (fc Z)<|ad 2 Z (yw jv jj Z Z)<|ad 4 Z (yw jv jj Z Z)<|ad 6 Z (bK jg Z Yc Z Z) ?_
 refine ad 7 Z (e9 Yn Z)<|ad 8 Z (Gv.lenM Z9 Z)<|ad 9 Z (wG Z Z)<|ad 11 Z (bK jg Z Yc Z Z)<|ad 12 Z (e9 Yn Z)<|ad 13 Z (Gv.lenM Z9 Z)<|aQ 3 Z<|zh (h3) Z<|z6<|aQ 5 Z<|zh (h4) Z<|z6<|aQ 10 Z<|zu Z (zj (.rest _)) (h5) ?_
 rintro r31 O31 ⟨⟨js,jl,jm⟩,rfl,rfl,_⟩
 refine z6<|ad 14 Z (y3 (cps:=[(0,[_,_,_]),(1,[_]),(2,[_]),(3,[_]),(4,[_]),(5,[_])]) (rs:=[_,_,_,_,_,_,_,_,.raw (.slice none 0 0),.raw (.map none),.raw (.slice none 0 0)]) II Z Z Z)<|aQ 15 Z<|yo (cs:=_) Z Z Z Z<|fun i36=>z6<|ad 16 Z (fU Z)<|bI<|gP (off:=8) (k:=2) (T:=187) (fun _=>.head) Z<|fun jp=>zd<|ye (γ:=Nat × Nat) [7] (fun g=>[]) (fun g=>[(i36,.cells 75 (lP f (ib f) (tS f) js jp (dF f).p.length (dy g.1) (.own g.2 f.blocks.length))),(js,.cells 136 [.int .i64 ((f.vars.length+1:Nat):Int),.own jl 0,.own jm 0]),(jl,.grow 3 180 []),(jm,.grow 1 3 []),(jp,.grow 2 187 []),(0,kr nB g.1 []),(g.2,.grow 1 3 (cI (fy f fun _=>false)))]) (fun g=>True) ?_ (fun _ _ h=>h) ?_
 ·refine zr (fun j=>Nat.beq j 9||Nat.beq j 12) (by kernel_rfl) Z (zj (.rest _))<|ad 0 Z (cJ Z)<|yp (i:=1) Z (by kernel_rfl) (by kernel_rfl) (by kernel_rfl) (by kernel_rfl) (cJ Z)<|yp (i:=3) Z (by kernel_rfl) (by kernel_rfl) (by kernel_rfl) (by kernel_rfl) (bK jg Z Z8 Z Z)<|yp (i:=4) Z (by kernel_rfl) (by kernel_rfl) (by kernel_rfl) (by kernel_rfl) (e9 Zg Z)<|yp (i:=5) Z (by kernel_rfl) (by kernel_rfl) (by kernel_rfl) (by kernel_rfl) (Gv.lenM ju Z)<|yr (i:=2) (j:=6) Z Z (by kernel_rfl) ?_ ?_
  ·refine az.makeMapS (c:=nB)<|fun b39=>z6<|yp (i:=7) Z (by kernel_rfl) (by kernel_rfl) (by kernel_rfl) (by kernel_rfl) (zw Z)<|ad 8 Z (zf j9 Z sizeOf73 (by decide) Z Z)<|yr (i:=6) (j:=9) Z Z (by kernel_rfl) ?_ ?_
   ·refine qg (m:=f.blocks.length) wy Y1 Z Z Z Z Z (by simp) (by simp) (by show (8:Int)*_≤_;omega) (by omega)<|fun i43=>ze (zb (zc .head))<|ze (zb (zc .t1))<|ze (zb (zc .t2))<|ze (zb (zc .t6))<|ze (zb (zc .t6))<|ze (zb (zc .t6))<|ze (zb (zc .t6))<|z6<|yf<|yh (i:=9) Z (by kernel_rfl) (by kernel_rfl)<|yq (l:=[_]) (new:=[_,_,_,_,_,_,_,_,_,_,_]) sizeOf73 Z Z Z Z Z Z .head Z Z<|z6<|yh (i:=10) Z (by kernel_rfl) (by kernel_rfl)<|ap Z<|z6<|yh (i:=11) Z (by kernel_rfl) (by kernel_rfl)<|za (zf j9 Z j7 (by decide) Z Z)<|z6<|yh (i:=12) Z (by kernel_rfl) (by kernel_rfl)<|yq (l:=[_]) (new:=[_,_,_,_,_,_,_,_,_,_,_]) j7 Z Z Z Z Z Z .head Z Z<|z6<|ym (by kernel_rfl) ?_
    exact ⟨(b39,i43),(by repeat (first|with_reducible exact y5 _ _|refine yn rfl ?_)),trivial,⟨_,(.refl _),by rw[hdm,hfp];rfl⟩,trivial⟩
   ·refine yq (l:=[_]) (new:=[_,_,_,_,_,_,_,_,_,_,_]) sizeOf73 Z Z Z Z Z Z .t2 Z Z<|z6<|aQ 6 Z<|qg (m:=f.blocks.length) wy Y1 Z Z Z Z Z (by simp) (by simp) (by show (8:Int)*_≤_;omega) (by omega)<|fun i43=>ze (zb (zc .head))<|ze (zb (zc .t1))<|ze (zb (zc .t2))<|ze (zb (zc .t6))<|ze (zb (zc .t6))<|ze (zb (zc .t6))<|ze (zb (zc .t6))<|z6<|yp (i:=10) Z (by kernel_rfl) (by kernel_rfl) (by kernel_rfl) (by kernel_rfl) (zw Z)<|yp (i:=11) Z (by kernel_rfl) (by kernel_rfl) (by kernel_rfl) (by kernel_rfl) (zf j9 Z j7 (by decide) Z Z)<|yf<|yh (i:=12) Z (by kernel_rfl) (by kernel_rfl)<|yq (l:=[_]) (new:=[_,_,_,_,_,_,_,_,_,_,_]) j7 Z Z Z Z Z Z .head Z Z<|z6<|ym (by kernel_rfl) ?_
    exact ⟨(b39,i43),(by repeat (first|with_reducible exact y5 _ _|refine yn rfl ?_)),trivial,⟨_,(.refl _),by rw[hdm,hfp];rfl⟩,trivial⟩
  ·refine qg (m:=f.blocks.length) wy Y1 Z Z Z Z Z (by simp) (by simp) (by show (8:Int)*_≤_;omega) (by omega)<|fun i43=>z6<|aQ 2 Z<|az.makeMapS (c:=nB)<|fun b39=>ze (zb (zc .t1))<|ze (zb (zc .t1))<|ze (zb (zc .t2))<|ze (zb (zc .t6))<|ze (zb (zc .t6))<|ze (zb (zc .t6))<|ze (zb (zc .t6))<|z6<|yp (i:=7) Z (by kernel_rfl) (by kernel_rfl) (by kernel_rfl) (by kernel_rfl) (zw Z)<|ad 8 Z (zf j9 Z sizeOf73 (by decide) Z Z)<|yf<|yh (i:=9) Z (by kernel_rfl) (by kernel_rfl)<|yq (l:=[_]) (new:=[_,_,_,_,_,_,_,_,_,_,_]) sizeOf73 Z Z Z Z Z Z .head Z Z<|z6<|yh (i:=10) Z (by kernel_rfl) (by kernel_rfl)<|ap Z<|z6<|yh (i:=11) Z (by kernel_rfl) (by kernel_rfl)<|za (zf j9 Z j7 (by decide) Z Z)<|z6<|yh (i:=12) Z (by kernel_rfl) (by kernel_rfl)<|yq (l:=[_]) (new:=[_,_,_,_,_,_,_,_,_,_,_]) j7 Z Z Z Z Z Z .head Z Z<|z6<|ym (by kernel_rfl) ?_
   exact ⟨(b39,i43),(by repeat (first|with_reducible exact y5 _ _|refine yn rfl ?_)),trivial,⟨_,(.refl _),by rw[hdm,hfp];rfl⟩,trivial⟩
 ·rintro ⟨bm,jd⟩ _
  rw[hfp]
  refine ai<|aJ Z<|zu Z (zj (.l (.l (.l (.l (.l (.r (.r (.rest _))))))))) (hfir i36 js jl jm jp bm jd) ?_
  rintro r49 O49 ⟨j1,rfl,rfl,_⟩
  refine z6<|ai<|aJ Z<|zu Z (zj (.l (.l (.l (.l (.l (.l (.l (.rest _))))))))) (hblk i36 js bm jd j1 jm jp) ?_
  rintro r51 O51 ⟨⟨j2,j3,j4,T⟩,rfl,rfl,hT⟩
  refine z6<|ai<|aJ Z<|za (fU Z)<|ao Z<|z6<|zg<|qd (x:=.po _ _) (y:=.int _ _) Z Z ?_
  exact ⟨(i36,js,bm,jd,j2,j3,j4,T),rfl,⟨_,.refl _,by simp only[w6,Bool.false_or,hfp];rfl⟩,by simpa using hT⟩
end Go.Proofs.YtdilpodccjlkgaaGreatDoor
namespace Go.Proofs.YtdilpodccjlkgaaGreatDoor
open Go.Proofs.Tryz
open Go.Proofs Go.Lib Go.Shelf Go.RowKit
theorem GX:da prog 29 4 1 1 [.bool false]:=⟨_,jk,Z6,zeroValue4,by decide,by decide,by kernel_rfl⟩
variable {E:World}
set_option maxRecDepth 20000
theorem Fv (l:List Bool) (b:Bool):cB l++[.bool b]=cB (l++[b]):=by unfold cB;rw[w5];rfl
def mg (f:ac) (i:Nat):List Bool:=((bx f.blocks.length).take i).flatMap (Hj f)
theorem sL {f:ac} {i:Nat} (h:i<f.blocks.length):mg f (i+1)=mg f i++Hj f (i:Int):=by
 unfold mg
 rw[List.take_add_one,eM h,List.flatMap_append]
 simp
theorem DX (f:ac):mg f f.blocks.length=Ik f:=by
 unfold mg Ik
 rw[List.take_of_length_le (by rw[bS];exact Nat.le_refl _)]
theorem v8 {f:ac}:∀{l:List aF} {K:KS} {k:Nat} {x:aF},l[k]?=some x→vM f K (l.take (k+1))=vM f K (l.take k)++(if nz x=true then[ox f ((l.take k).foldl (ec f) K) x] else[])
 |y::l,K,0,x,h=>by
  cases h
  show vM f K [y]=[]++_
  unfold vM vM
  rw[w6];rfl
 |y::l,K,k+1,x,h=>by
  have ih:=v8 (f:=f) (l:=l) (K:=ec f K y) (k:=k) (x:=x) h
  rw[List.take_succ_cons,List.take_succ_cons]
  show (if nz y=true then[ox f K y] else[])++vM f (ec f K y) (l.take (k+1))=((if nz y=true then[ox f K y] else[])++vM f (ec f K y) (l.take k))++_
  rw[ih,qv];rfl
theorem wh {f:ac} (hR:b5 f):∀i:Nat,i≤f.blocks.length→(mg f i).length≤i*1024
 |0,_=>by unfold mg;simp
 |i+1,h=>by
  have ih:=wh hR i (by omega)
  have hb:=qt (show i<f.blocks.length by omega)
  have h1:=mQ _ _ (w4 hb)
  have h2:=hR.hS.2.2.2.2.1
  have h3:HW (f.blocks[i]'(by omega)).insts≤(f.blocks[i]'(by omega)).insts.length:=List.length_filter_le _ _
  rw[sL (by omega),qz,Fk hb]
  omega
set_option maxHeartbeats 4000000 in
theorem tV (f:ac) (hA:H3 f E) (hp:GW f=true):aM prog E 9 [.agg (bE f)] (.tup [.fro 1 ((Ik f).map A9),.int .i64 0]):=by
 have h1:=lR (E:=E) f hA hp
 have hR:=hA.hR
 have hf3:=hA.hf.2.2.1
 have hnb:=hR.nblk
 have hG:=hR.hE.grph
 unfold DT at h1
 unfold bE at *
 refine zp func9 Z (by decide) Z<|ai<|ya (cs:=_) Z Z Z<|za (jI Z)<|ao Z<|z6<|ai<|ae jv jj Z Z<|zu Z (zj (.rest _)) (h1) ?_
 rintro r13 O13 ⟨⟨iw,js,bm,jd,jl,jm,jp,T⟩,rfl,rfl,hT⟩
 refine za (ke Z)<|za (q9 (v:=.po _ _) Z Z)<|za (iN Z Z)<|za (fU Z)<|ao Z<|z6<|zd<|ai<|aa Z<|aO Z Z<|z6<|yg Z Z<|zi<|ai<|za (jI Z)<|z6<|gU (t:=6) (k:=1) (T:=4) Z<|fun i6=>zd<|ai<|au jg Z Z8 Z Z<|aI Zg Z<|aq ju Z<|aa Z<|z6<|zm<|y8 (γ:=Nat × Nat) [4,20,21] (fun g=>[(22,.int .i64 g.1),(6,.own g.2 (mg f g.1).length)]) (fun g=>[(g.2,.grow 1 4 (cB (mg f g.1))),(iw,.cells 75 (lP f (ib f) (tS f) js jp (dF f).p.length (dy bm) (.own jd f.blocks.length))),(js,.cells 136 [.int .i64 ((f.vars.length+1:Nat):Int),.own jl (dF f).l.length,.own jm ([]:List Int).length]),(jl,.grow 3 180 ((dF f).l.map b8).flatten),(jm,.grow 1 3 (cI ([]:List Int))),(jp,.grow 2 187 ((dF f).p.map b9).flatten),(0,kr nB bm T),(jd,.grow 1 3 (cI (fy f fun j=>fM (ah f) f.blocks.length 0 j)))]) (fun g=>g.1≤f.blocks.length) (fun g=>f.blocks.length - g.1) (0,i6) eo aH (qw _) ?_
 rintro ⟨i,io⟩ hi
 try dsimp only at *
 have hpl:=wh hR i hi
 refine ai<|ay Z Z<|z6<|zd<|zt Z (fun ci=>?_) (fun ci=>?_)
 ·have hi2:i<f.blocks.length:=by simp at ci;omega
  have hb:=qt hi2
  obtain ⟨b,hbe⟩:∃b,f.blocks[i]=b:=⟨_,rfl⟩
  rw[hbe] at hb
  have hbg:=dQ hb
  have hbm:=w4 hb
  have hsm:=mQ _ _ hbm
  have hsh:=hR.hS.2.2.2.2.1
  have hdom:fM (ah f) f.blocks.length 0 (i:Int)=true:=(hG.domB_iff _ _).2 (.root (hR.hs.2.1 i hi2))
  refine zi<|zd<|zm<|ai<|aa Z<|za (bv i ju jx Z Z Z hb)<|ae Yo jx Z Z<|y7 (cs:=[.str ⟨#[]⟩,.raw (.slice none 0 0),.raw (.slice none 0 0),.int .i64 0,.int .i64 0,.int .i64 0,.int .i64 0]) Zl Z Z<|fun i8=>ao Z<|y1 jx Z Z Z Z Z Z .head Z<|ze (yd (t:=8) Z .head)<|z6<|ai<|au ji Z Zt Z Z<|aI Y9 Z<|aq Z0 Z<|aa Z<|z6 ?_
  have hz:mg f i++vM f (jY f i) (b.insts.take 0)=mg f i:=by rw[List.take_zero];unfold vM;rw[w6]
  refine zm<|y8 (γ:=Nat × Nat) [4,7,20,21,22,28,29] (fun g=>[(30,.int .i64 g.1),(6,.own g.2 (mg f i++vM f (jY f i) (b.insts.take g.1)).length)]) (fun g=>[(g.2,.grow 1 4 (cB (mg f i++vM f (jY f i) (b.insts.take g.1)))),(iw,.cells 75 (lP f (ib f) (tS f) js jp (dF f).p.length (dy bm) (.own jd f.blocks.length))),(js,.cells 136 [.int .i64 ((f.vars.length+1:Nat):Int),.own jl (dF f).l.length,.own jm ([]:List Int).length]),(jl,.grow 3 180 ((dF f).l.map b8).flatten),(jm,.grow 1 3 (cI ([]:List Int))),(jp,.grow 2 187 ((dF f).p.map b9).flatten),(0,kr nB bm T),(jd,.grow 1 3 (cI (fy f fun j=>fM (ah f) f.blocks.length 0 j)))]) (fun g=>g.1≤b.insts.length) (fun g=>b.insts.length - g.1) (0,io) ⟨Z,by rw[hz];rfl,trivial⟩ ⟨_,(.refl _),by rw[hz]⟩ (qw _) ?_
  rintro ⟨k,ko⟩ hk
  try dsimp only at *
  have hwl:(vM f (jY f i) (b.insts.take k)).length≤k:=by
   rw[tL]
   exact Nat.le_trans (List.length_filter_le _ _) (by rw[w7];omega)
  refine ai<|ay Z Z<|z6<|zd<|zt Z (fun ck=>?_) (fun ck=>?_)
  ·have hk2:k<b.insts.length:=by simp at ck;omega
   obtain ⟨x,hx⟩:∃x,b.insts[k]?=some x:=⟨_,qt hk2⟩
   have hkat:B6 f (i:Int) k=(b.insts.take k).foldl (ec f) (jY f i):=by unfold B6 jY;rw[hbg]
   have hstep:=v8 (f:=f) (K:=jY f i) hx
   refine zi<|zd<|zm<|ai<|aa Z<|za (bv k Z0 jy Z Z Z hx)<|ae Zz jy Z Z<|y7 (cs:=[.int .i64 0,.int .i64 0,.raw (.slice none 0 0),.int .i64 0]) Zh Z Z<|fun i10=>ao Z<|y1 jy Z Z Z Z Z Z .head Z<|ze (yd (t:=10) Z .head)<|z6<|ai<|au j5 Z Z2 Z Z<|aA Z4 Z<|zh (ri x.op) Z<|z6<|zy Z (fun c=>?_) (fun c=>?_)
   ·have c:18≤x.op∧x.op≤24:=by simpa using c
    have hck:nz x=true:=w8 c
    rw[if_pos hck] at hstep
    have hval:decide ((bf T ((i:Int),(k:Int))).getD 0=1)=ox f ((b.insts.take k).foldl (ec f) (jY f i)) x:=by
     rw[hT ((i:Int),(k:Int)),vO hb hx,hck,hkat]
     simp only[hdom,Bool.true_and]
     cases ox f ((b.insts.take k).foldl (ec f) (jY f i)) x<;>rfl
    refine aW<|za (im Z)<|aJ Z<|ap Z<|za (zf j9 Z sizeOf73 (by decide) Z Z)<|za (zo (c:=dy _) isAgg73 Z ⟨_,.t1⟩ Z)<|aa Z<|aa Z<|za (y3 (cps:=[(0,[_]),(1,[_])]) (rs:=[_,_]) C5 Z Z Z)<|za (Gv.lookup1SK (k:=((i:Int),(k:Int))) DF underlying73 Zv Z Z ⟨_,.t6⟩)<|ak Z Z<|y4 (rows:=[[_]]) GX Z Z Z Z Z<|yu (k:=1) jk Yp Z Z Z Z Z (fun _=>.head) (by rw[aN,Nat.mul_one]) (by decide) Z (by show (_+_)*1≤_;simp<;>omega) (by simp<;>omega)<|fun i49=>za (eD Z)<|z6<|aW<|aE Z Z<|aa Z<|z6 ?_
    exact ⟨(k+1,i49),lf,⟨rfl,congrArg (AV.own _) (by rw[hstep];simp only[qz,List.length_cons,List.length_nil];omega),trivial⟩,⟨_,(.refl _),by dsimp only;rw[hstep,←qv,←hval];exact congrArg (·::_) (congrArg (fun l=>(_,bA.grow 1 _ l)) (Fv _ _))⟩,hk2,by dsimp only;omega⟩
   ·have c:¬(18≤x.op∧x.op≤24):=by simp at c;omega
    rw[if_neg (by unfold nz;simpa using c),w6] at hstep
    refine zi<|aW<|aE Z Z<|aa Z<|z6 ?_
    exact ⟨(k+1,ko),lf,⟨rfl,congrArg (AV.own _) (by rw[hstep]),trivial⟩,⟨_,(.refl _),by dsimp only;rw[hstep]⟩,hk2,by dsimp only;omega⟩
  ·obtain rfl:k=b.insts.length:=by simp at ck;omega
   have hpb:mg f i++vM f (jY f i) (b.insts.take b.insts.length)=mg f (i+1):=by rw[sL hi2,qy];unfold Hj;rw[hbg]
   refine y6<|aW<|aE Z Z<|aa Z<|z6 ?_
   exact ⟨(i+1,ko),db,⟨rfl,congrArg (AV.own _) (by rw[hpb]),trivial⟩,⟨_,(.refl _),by dsimp only;rw[hpb]⟩,hi2,by dsimp only;omega⟩
 ·obtain rfl:i=f.blocks.length:=by simp at ci;omega
  rw[DX]
  refine y6<|ai<|za (im Z)<|za (eD Z)<|ao Z<|z6<|zz (aS.knowB (t:=2) Z .head (by simp))<|zg<|qd (x:=.fro _ _) (y:=.int _ _) Z Z ?_
  rfl
def Ed (f:ac):List Int:=(bx f.blocks.length).map (jA f)
theorem GY {f:ac} (hR:b5 f):fy f (fun j=>fM (ah f) f.blocks.length 0 j)=Ed f:=by
 unfold fy Ed
 refine List.map_congr_left fun j hj=>?_
 obtain ⟨h0,h1⟩:=cK.1 hj
 obtain ⟨q,rfl⟩:∃q:Nat,j=(q:Int):=⟨j.toNat,by omega⟩
 have h:=(hR.hE.grph.domB_iff 0 (q:Int)).2 (.root (hR.hs.2.1 q (by omega)))
 exact if_pos h
set_option maxHeartbeats 4000000 in
theorem rR (f:ac) (hA:H3 f E) (hp:GW f=true):aM prog E 16 [.agg (bE f)] (.tup [.fro 1 ((Ed f).map cX),.int .i64 0]):=by
 have h1:=lR (E:=E) f hA hp
 have hf3:=hA.hf.2.2.1
 rw[GY hA.hR] at h1
 have hl:(Ed f).length=f.blocks.length:=by unfold Ed;rw[w1,bS]
 unfold DT at h1
 unfold bE at *
 refine zp func16 Z (by decide) Z<|ai<|ya (cs:=_) Z Z Z<|za (jI Z)<|ao Z<|z6<|ai<|ae jv jj Z Z<|zu Z (zj (.rest _)) (h1) ?_
 rintro r8 O8 ⟨⟨iw,js,bm,jd,jl,jm,jp,T⟩,rfl,rfl,hT⟩
 refine za (ke Z)<|za (q9 (v:=.po _ _) Z Z)<|za (iN Z Z)<|za (fU Z)<|ao Z<|z6<|zd<|ai<|aa Z<|aO Z Z<|z6<|yg Z Z<|zi<|ai<|aJ Z<|ap Z<|za (zf j9 Z j7 (by decide) Z Z)<|za (zo (c:=.own _ _) jf Z ⟨_,.head⟩ Z)<|za (eD Z)<|ao Z<|z6<|zz (aS.knowI (t:=2) Z .t6 hl)<|zg<|qd (x:=.fro _ _) (y:=.int _ _) Z Z ?_
 rfl
end Go.Proofs.YtdilpodccjlkgaaGreatDoor
namespace Go.Proofs.YtdilpodccjlkgaaGreatDoor
open Go.Proofs.Tryz
open Go.Proofs Go.Lib
theorem xY {f:ac} (h:bR f) (h64:∀b∈f.blocks,∀x∈b.insts,bB x.num):vx f:=by
 have h1:=h.1
 unfold nf at h1
 simp only[Bool.or_eq_false_iff,decide_eq_false_iff_not] at h1
 obtain ⟨_,_,_,_,_,h6⟩:=h
 exact ⟨by omega,fun b hb=>(h6 b hb).1,fun b hb x hx=>⟨gN ((h6 b hb).2.1 x hx),h64 b hb x hx⟩,fun b hb=>(h6 b hb).2.2⟩
theorem k7 {f:ac} (h:bR f):f.params.length≤f.vars.length:=by
 have h1:=h.1
 unfold nf at h1
 simp only[Bool.or_eq_false_iff,decide_eq_false_iff_not] at h1
 omega
theorem rl {f:ac} (h:bR f) (j:Nat):0≤nW f j∧nW f j≤2:=by
 obtain ⟨_,_,h3,_⟩:=h
 unfold nW
 by_cases hj:j<f.vars.length
 ·rw[qt hj];exact ⟨(h3 j hj).2.1,(h3 j hj).2.2.1⟩
 ·rw[List.getElem?_eq_none (by omega)];exact ⟨by decide,by decide⟩
end Go.Proofs.YtdilpodccjlkgaaGreatDoor
namespace Go.Proofs.YtdilpodccjlkgaaGreatDoor
open Go.Proofs.Tryz
open Go.Proofs
def F4 (x y:AV):Prop:=∀I v,bp I x v→bp I y v
def BR (xs ys:List AV):Prop:=∀I vs,RepL I xs vs→RepL I ys vs
theorem F4.refl (x:AV):F4 x x:=fun _ _ h=>h
theorem F4.nil (k:Nat):F4 (.raw (.slice none 0 0)) (.fro k []):=fun _ _ h=>⟨none,0,0,h,rfl,Nat.le_refl _,fun _=>rfl,trivial⟩
theorem BR.nil:BR [] []:=fun _ _ h=>h
theorem BR.cons {x y:AV} {xs ys:List AV} (h:F4 x y) (hs:BR xs ys):BR (x::xs) (y::ys):=fun I _ ⟨v,us,e,h1,h2⟩=>⟨v,us,e,h I v h1,hs I us h2⟩
theorem F4.agg {xs ys:List AV} (h:BR xs ys):F4 (.agg xs) (.agg ys):=fun I _ ⟨vs,e,h1⟩=>⟨vs,e,h I vs h1⟩
end Go.Proofs.YtdilpodccjlkgaaGreatDoor
namespace Go.Proofs.YtdilpodccjlkgaaGreatDoor
open Go.Proofs.Tryz
open Go.Proofs Go.Lib Go.Shelf Go.RowKit
theorem H4:dB prog 61 #[(0,1),(1,1)] [.str ⟨#[]⟩,.int .i64 0]:=⟨_,_,Zm,zeroValue61,fun w=>by kernel_rfl,rfl⟩
theorem GZ:da prog 22 61 2 2 [.str ⟨#[]⟩,.int .i64 0,.str ⟨#[]⟩,.int .i64 0]:=⟨_,Z9,Yd,zeroValue61,by decide,by decide,by kernel_rfl⟩
theorem G0:da prog 45 54 2 4 [.int .i64 0,.int .i64 0,.raw (.slice none 0 0),.int .i64 0,.int .i64 0,.int .i64 0,.raw (.slice none 0 0),.int .i64 0]:=⟨_,Z0,jy,Zh,by decide,by decide,by kernel_rfl⟩
theorem IJ:dB prog 49 #[(0,1),(1,1),(2,2)] [.int .i64 0,.int .i64 0,.int .i64 0,.int .i64 0]:=⟨_,_,je,zeroValue49,fun w=>by kernel_rfl,rfl⟩
theorem IK:dB prog 51 #[(0,1),(1,1),(2,1),(3,4)] [.str ⟨#[]⟩,.raw (.slice none 0 0),.raw (.slice none 0 0),.int .i64 0,.int .i64 0,.int .i64 0,.int .i64 0]:=⟨_,_,ji,Zl,fun w=>by kernel_rfl,rfl⟩
theorem G1:da prog 24 51 1 7 [.str ⟨#[]⟩,.raw (.slice none 0 0),.raw (.slice none 0 0),.int .i64 0,.int .i64 0,.int .i64 0,.int .i64 0]:=⟨_,ju,jx,Zl,by decide,by decide,by kernel_rfl⟩
theorem IL:dB prog 26 #[(0,1),(1,1),(2,1)] [.raw (.slice none 0 0),.raw (.slice none 0 0),.raw (.slice none 0 0)]:=⟨_,_,jg,zeroValue26,fun w=>by kernel_rfl,rfl⟩
variable {E:World}
set_option maxRecDepth 20000
theorem Fw {f:ac} (hS:bR f) {b:aX} (hb:b∈f.blocks) {x:aF} (hx:x∈b.insts):x.dst<f.vars.length:=by
 rcases (gN ((hS.2.2.2.2.2 b hb).2.1 x hx)).dst with ⟨h1,h2⟩|⟨h0,_,h3⟩
 ·omega
 ·exact (eG h3).1
theorem wi {f:ac} (ht:bi f=true) (hs:dD f=true) (h64:∀b∈f.blocks,∀x∈b.insts,bB x.num):b5 f:=by
 have hS:=et ht
 have hE:=dO ht
 have hSg:=(A8 hE).1 hs
 refine ⟨fun b hb=>?_,hS,hE,hSg,E2 hSg.2.2.1 (fun b hb x hx=>Fw hS hb hx) fun b hb p hp=>?_,xY hS h64⟩
 ·unfold bi at ht
  exact List.all_eq_true.1 (DS ht).2 b hb
 ·have:=eG ((hS.2.2.2.2.2 b hb).1 p hp).1
  exact ⟨this.2,this.1⟩
theorem tW {f:ac} (h:ij f=true):small f∧bi f=true∧dD f=true∧GW f=true:=by
 unfold ij at h
 simp only[wa] at h
 exact ⟨((mW f).1 h.1.1).small,h.1.2,h.2.1,by unfold GW;rw[h.1.2,h.2.1,h.2.2];rfl⟩
def Fx:ac:=⟨[⟨⟨#[120,115]⟩,2⟩,⟨⟨#[105]⟩,0⟩],[0,1],[⟨⟨#[97]⟩,[],[⟨18,-1,[0,1],0⟩,⟨18,-1,[0,1],0⟩],⟨2,1,0,0⟩⟩]⟩
theorem BS:small Fx:=by unfold small Fx;simp[uT];decide
theorem sM:bi Fx=true:=by decide +kernel
theorem wj:dD Fx=true:=by decide +kernel
theorem BT:GW Fx=true:=by decide +kernel
theorem Fy:Ik Fx=[false,true]:=by decide +kernel
theorem tX (hL:bz E):aM prog E 7 [] (.bool true):=by
 have hR:b5 Fx:=wi sM wj fun b hb x hx=>by
  have:b=⟨⟨#[97]⟩,[],[⟨18,-1,[0,1],0⟩,⟨18,-1,[0,1],0⟩],⟨2,1,0,0⟩⟩:=by simpa [Fx] using hb
  subst this
  have:x=⟨18,-1,[0,1],0⟩:=by simpa using hx
  subst this
  unfold bB;decide
 have hP:=tV (E:=E) Fx ⟨BS,hL,hR,sM,wj⟩ BT
 rw[Fy] at hP
 refine zp func7 Z (by decide) Z<|ai<|ab Z<|z6<|ai<|za (y3 (cps:=[(0,[_]),(1,[_])]) (rs:=[_,_]) H4 Z Z Z)<|za (y3 (cps:=[(0,[_])]) (rs:=[_,.int .i64 0]) H4 Z Z Z)<|y4 (rows:=[[_,_],[_,_]]) GZ Z Z Z Z Z<|y4 (rows:=[[_],[_]]) th Z Z Z Z Z<|y4 (rows:=[[_],[_]]) th Z Z Z Z Z<|za (y3 (cps:=[(0,[_]),(1,[_]),(2,[_])]) (rs:=[_,_,_,.int .i64 0]) E9 Z Z Z)<|y4 (rows:=[[_],[_]]) th Z Z Z Z Z<|za (y3 (cps:=[(0,[_]),(1,[_]),(2,[_])]) (rs:=[_,_,_,.int .i64 0]) E9 Z Z Z)<|y4 (rows:=[[_,_,_,_],[_,_,_,_]]) G0 Z Z Z Z Z<|za (y3 (cps:=[(0,[_]),(1,[_])]) (rs:=[_,_,.int .i64 0,.int .i64 0]) IJ Z Z Z)<|za (y3 (cps:=[(0,[_]),(2,[_]),(3,[_,_,_,_])]) (rs:=[_,.raw (.slice none 0 0),_,_,_,_,_]) IK Z Z Z)<|ze (aS.slot (t:=14) Z (F4.agg (.cons (.refl _) (.cons (.nil 3) (.cons (.refl _) (.cons (.refl _) (.cons (.refl _) (.cons (.refl _) (.cons (.refl _) .nil)))))))))<|y4 (rows:=[[_,_,_,_,_,_,_]]) G1 Z Z Z Z Z<|za (y3 (cps:=[(0,[_]),(1,[_]),(2,[_])]) (rs:=[_,_,_]) IL Z Z Z)<|y7 (cs:=[.raw (.slice none 0 0),.raw (.slice none 0 0),.raw (.slice none 0 0)]) zeroValue26 Z Z<|fun i1=>y1 jj Z Z Z Z Z Z .head Z<|ze (yd (t:=1) Z .head)<|z6<|ai<|ae jv jj Z Z<|zh (hP) Z<|za (ke Z)<|za (q9 (v:=.fro _ _) Z Z)<|za (iN Z Z)<|za (nI Z)<|ao Z<|z6<|ai<|aa Z<|ak Z Z<|aj Z<|z8 Z Z Z<|be Z<|z8 Z Z Z<|aq jk Z ?_
 refine z8 Z Z Z<|ak Z Z<|aw Z Z Z<|aj Z<|z8 Z Z Z<|be Z<|z8 Z Z Z<|za (bv 0 jk Z6 Z Z Z Z)<|z8 Z Z Z<|za (yx (c:=.bool _) Ym Z)<|z8 Z Z Z<|aC Z<|aw Z Z Z<|aj Z<|z8 Z Z Z<|be Z<|z8 Z Z Z<|za (bv 1 jk Z6 Z Z Z Z)<|z8 Z Z Z<|za (yx (c:=.bool _) Ym Z)<|aw Z Z Z<|ab Z<|z6<|zg<|zn (x:=.bool _) Z ?_
 rfl
end Go.Proofs.YtdilpodccjlkgaaGreatDoor
namespace Go.Proofs.YtdilpodccjlkgaaGreatDoor
open Go.Proofs.Tryz
open Go.Proofs Go.Lib Go.Shelf Go.RowKit
variable {E:World}
set_option maxRecDepth 20000
end Go.Proofs.YtdilpodccjlkgaaGreatDoor
namespace Go.Proofs.YtdilpodccjlkgaaGreatDoor
open Go.Proofs.Tryz
open Go.Proofs Go.Lib Go.Shelf Go.RowKit
variable {E:World}
set_option maxRecDepth 20000
theorem wk (op:Int) (h:0≤op∧op≤26):aM prog E 15 [.int .i64 op] (.int .i64 (if 18≤op∧op≤24 then op - 17 else 0)):=by
 refine zp func15 Z (by decide) Z<|ai<|ao Z<|z6<|zd<|ai<|aa Z<|ay Z Z<|aj Z<|zq (s:=5) Z (fun c1=>?_) (fun c1=>?_)
 ·have h1:op<18:=by simpa using c1
  refine z7 Z Z c1<|z7 Z Z c1<|aw Z c1 Z<|z6<|yt Z Z<|ai<|ao Z<|z6<|zg<|zn (x:=.int _ _) Z ?_
  rw[if_neg (by omega)]
 ·have h1:¬op<18:=by simpa using c1
  refine z8 Z Z c1<|aa Z<|z8 Z Z c1<|aZ Z Z<|ax Z c1 Z<|z6<|zy Z (fun c2=>?_) (fun c2=>?_)
  ·have h2:24<op:=by simpa using c2
   refine ai<|ao Z<|z6<|zg<|zn (x:=.int _ _) Z ?_
   rw[if_neg (by omega)]
  ·have h2:¬24<op:=by simpa using c2
   refine zi<|ai<|aa Z<|za (Gv.sub Z Z (by unfold lE;omega))<|ao Z<|z6<|zg<|zn (x:=.int _ _) Z ?_
   rw[if_pos (by omega)]
end Go.Proofs.YtdilpodccjlkgaaGreatDoor
