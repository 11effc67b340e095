/- The document's first check of a block, how it comes from another one, whether it was passed. Of programs that are little. -/
import Derived.Test.YtdilpodccjlkgaaGreatDoorJu
import Derived.Test.YtdilpodccjlkgaaGreatDoorJq
import Derived.Test.YtdilpodccjlkgaaGreatDoorJr
import Derived.Test.YtdilpodccjlkgaaGreatDoorJs
import Derived.Test.YtdilpodccjlkgaaGreatDoorJn
import Derived.Test.YtdilpodccjlkgaaGreatDoorJh
import Derived.Test.YtdilpodccjlkgaaGreatDoorJc
import Derived.Test.YtdilpodccjlkgaaGreatDoorJt
import Derived.Test.YtdilpodccjlkgaaGreatDoorJm
set_option linter.unusedVariables false
set_option linter.unusedSimpArgs false
set_option linter.unusedSectionVars false
namespace Go.Proofs.YtdilpodccjlkgaaGreatDoor
open Go.Proofs.Tryz
open Go.Proofs Go.Lib Go.Shelf Go.RowKit
variable {E:World}
set_option maxRecDepth 20000
theorem rp (op:Int):aM prog E 19 [.int .i64 op] (.bool (decide (18≤op)&&decide (op≤24))):=by
 refine zp func19 Z (by decide) Z<|ai<|ab Z<|z6<|ai<|aa Z<|za (q5 Z Z)<|aj Z<|zq (s:=5) Z (fun c1=>?_) (fun c1=>?_)
 ·refine z8 Z Z c1<|aa Z<|z8 Z Z c1<|za (Gv.leq Z Z)<|aw Z c1 Z<|ab Z<|z6<|zi<|zn (x:=.bool _) Z ?_
  exact jb (by simp_all<;>omega)
 ·refine z7 Z Z c1<|z7 Z Z c1<|ay Z c1 Z<|ab Z<|z6<|zi<|zn (x:=.bool _) Z ?_
  exact jb (by simp_all<;>omega)
end Go.Proofs.YtdilpodccjlkgaaGreatDoor
namespace Go.Proofs.YtdilpodccjlkgaaGreatDoor
open Go.Proofs.Tryz
open Go.Proofs Go.Lib Go.Shelf Go.RowKit
variable {E:World}
set_option maxRecDepth 20000
theorem B7 (f:ac) {i:Nat} (hi:i<f.blocks.length):(ob f)[i]?=some (ed (ah f) f.blocks.length i):=by
 unfold ob
 rw[eU _ hi]
 congr 1
 unfold tI ed
 rw[List.filter_map,List.map_map,List.filter_filter]
 have:((fun p:Int × Int=>p.2)∘fun b=>(gi (bh (ah f) f.blocks.length) b,b))=_root_.id:=rfl
 rw[this,List.map_id]
 refine List.filter_congr fun c _=>?_
 simp[Function.comp,Bool.and_comm]
theorem yG (f:ac) (hE:bV f) (hn:f.blocks.length≤1000) {i:Nat} (hi:i<f.blocks.length) (hr:(i:Int)∈aB (ah f) f.blocks.length) (y:AV):aM prog E 74 [mQ f (lO eI (ob f)) y,.int .i64 i] (.fro 1 ((ed (ah f) f.blocks.length i).map da)):=by
 have hlev:decide (gi (bP (ah f) f.blocks.length) (i:Int)≠-1)=true:=w8 ((hE.grph.lev_mem _).2 hr)
 have hkl:(ed (ah f) f.blocks.length i).length≤1000:=by
  unfold ed
  exact Nat.le_trans (List.length_filter_le _ _) (by rw[bX];exact hn)
 have hget:((ob f).map fun r=>[AV.fro 1 (r.map eI.row)])[i]?=some [.fro 1 ((ed (ah f) f.blocks.length i).map da)]:=by rw[w2,B7 f hi];rfl
 have hh:=nx (E:=E) (bP (ah f) f.blocks.length) (i:Int) (.fro 1 ((bh (ah f) f.blocks.length).map da)) (lO eI (ob f)) y (by rw[hE.grph.lev.len];exact hn)
 unfold mQ lO
 unfold lO at hh
 refine zp func74 Z (by decide) Z<|ai<|za (jK Z)<|z6<|zd<|ai<|za (fe Z)<|aa Z<|zg (hh) Z<|aD Z<|z6<|yg Z (by rw[hlev];rfl)<|zh<|ai<|za (fe Z)<|za (yk Z)<|au Zc Z Xi Z Z<|aI isAgg70 Z<|aa Z<|za (Gv.idxF (j:=i) jh j7 Z Z Z hget)<|aI je Z<|zg (u9 _ hkl) Z<|za (ni Z)<|z6<|zi<|zn (x:=.fro _ _) Z ?_
 rfl
def I7 (f:ac) (K:KS) (i:Int):Prop:=(K.p.length:Int)≤1100*gi (bP (ah f) f.blocks.length) i∧∀q∈K.p,q.2.length≤1000
theorem Ie {f:ac} {K:KS} {x:aF} (hx:x.args.length≤1000) (h:∀q∈K.p,q.2.length≤1000):(d5 f K x).p.length≤K.p.length+1∧(∀q∈(d5 f K x).p,q.2.length≤1000)∧∃l,(d5 f K x).p=K.p++l:=by
 unfold d5
 split
 ·rw[Fy]
  refine ⟨by simp,fun q hq=>?_,_,rfl⟩
  rcases List.mem_append.1 hq with hq|hq
  ·exact h q hq
  ·rw[List.mem_singleton.1 hq];exact hx
 ·rw[Ae];exact ⟨by omega,h,[],by simp⟩
theorem yH {f:ac}:∀(l:List aF) (K:KS),(∀x∈l,x.args.length≤1000)→(∀q∈K.p,q.2.length≤1000)→(l.foldl (d5 f) K).p.length≤K.p.length+l.length∧(∀q∈(l.foldl (d5 f) K).p,q.2.length≤1000)∧∃m,(l.foldl (d5 f) K).p=K.p++m
 |[],K,_,h=>⟨by simp,h,[],by simp⟩
 |x::l,K,hx,h=>by
  obtain ⟨h1,h2,m1,h3⟩:=Ie (f:=f) (hx x (.head _)) h
  obtain ⟨g1,g2,m2,g3⟩:=yH l (d5 f K x) (fun y hy=>hx y (.tail _ hy)) h2
  rw[List.foldl_cons]
  exact ⟨by rw[List.length_cons];omega,g2,m1++m2,by rw[g3,h3,qv]⟩
theorem dv (K:KS) (a b c:Int):∃l,(et K a b c).l=K.l++l:=by unfold et;split;exact ⟨_,rfl⟩;exact ⟨[],by simp⟩
theorem eX {K L:KS} {M:List fH} (h:∃l,K.l=M++l) (g:∃l,L.l=K.l++l):∃l,L.l=M++l:=by
 obtain ⟨l,h⟩:=h;obtain ⟨m,g⟩:=g;exact ⟨l++m,by rw[g,h,qv]⟩
theorem jE (K:KS) (a b:Int) (o:Option Int):∃l,(addO K a b o).l=K.l++l:=by cases o with|none=>exact ⟨[],by simp[addO]⟩|some c=>exact dv K a b c
theorem nO (K:KS) (a b:Int):∃l,(iA K a b).l=K.l++l:=eX (dv _ _ _ _) (dv _ _ _ _)
theorem jF (K:KS):∃l,K.l=K.l++l:=⟨[],by simp⟩
theorem FI {f:ac} (K:KS) (x:aF):∃l,(d5 f K x).l=K.l++l:=by
 have hp:∀p,∃l,(⟨K.l,p⟩:KS).l=K.l++l:=fun p=>⟨[],by simp⟩
 have hA:∃l,(eW f K x).l=K.l++l:=by
  unfold eW;split
  ·exact eX (dv _ _ _ _) (dv _ _ _ _)
  ·exact jF K
 unfold d5
 split
 ·unfold lW
  repeat' split
  ·exact eX (eX (hp _) (dv _ _ _ _)) (dv _ _ _ _)
  ·exact eX (eX (hp _) (dv _ _ _ _)) (dv _ _ _ _)
  ·exact eX (hp _) (dv _ _ _ _)
  ·exact eX (hp _) (dv _ _ _ _)
  ·exact hp _
  ·exact hp _
 ·unfold lV
  split
  ·exact eX (dv _ _ _ _) (dv _ _ _ _)
  split
  ·exact nO _ _ _
  split
  ·exact nO _ _ _
  split
  ·unfold mV
   split
   ·exact jF K
   split
   ·exact eX (jE _ _ _ _) (jE _ _ _ _)
   ·exact eX (eX (eX (jE _ _ _ _) (jE _ _ _ _)) (jE _ _ _ _)) (jE _ _ _ _)
  split
  ·unfold jA
   split
   ·exact eX hA (dv _ _ _ _)
   ·exact hA
  ·exact jF K
theorem wk {f:ac}:∀(l:List aF) (K:KS),∃m,(l.foldl (d5 f) K).l=K.l++m
 |[],K=>jF K
 |x::l,K=>eX (FI K x) (wk l (d5 f K x))
theorem wl:∀(l:List wI) (K:KS),∃m,(l.foldl gx K).l=K.l++m
 |[],K=>jF K
 |r::l,K=>eX (by
   unfold gx
   repeat' split
   ·exact dv _ _ _ _
   ·exact dv _ _ _ _
   ·exact nO _ _ _
   ·exact jF K) (wl l (gx K r))
theorem B8 {f:ac} {K:KS} {t pr a9 a10:AV} {iw js jl jm jp:Nat} {M:List Int} (hR:b7 f) (hv:f.vars.length≤1000) (hK:KB f K) (bk:Nat) {v:Int} (hvv:bd f v=true) :
  aZ prog E 73 [.po iw 0,.int .i64 v,dA bk] (iQ f t pr a9 a10 iw js jl jm jp K M++[(0,jC bk (mI []))]) (fun y O'=>∃O'',(∃es,y=.int .i64 (dK f K v)∧O''=[(0,jC bk (mI es))])∧O'=iQ f t pr a9 a10 iw js jl jm jp K M++O''):=by
 refine aZ.lendTo (Q:=fun y O=>∃es,y=.int .i64 (dK f K v)∧O=[(0,jC bk (mI es))]) DI (fun I J y O v h hv=>?_) (fun I J y O B h hB=>?_) ((As f hR hv K hK t pr bk 100000 [] v hvv (hR.rk_low v) (Eq.emp f K)).mono fun y O ⟨es,h1,h2,_⟩=>⟨es,h1,h2⟩)
 ·obtain ⟨es,rfl,_⟩:=h
  exact hv
 ·obtain ⟨es,_,rfl⟩:=h
  exact DH hB
structure Iw (f:ac) (E:World):Prop where
 hf:small f
 hL:bz E
 hR:b7 f
 ht:bi f=true
 hs:dH f=true
def Er (f:ac) (iw js bm jd jl jm jp:Nat) (K:KS) (M:List Int) (T:List (gB × Int)) (D:List Int):OL:=[(iw,.cells 75 (lY f (ic f) (uc f) js jp K.p.length (dA bm) (.own jd f.blocks.length))),(js,.cells 136 [.int .i64 ((f.vars.length+1:Nat):Int),.own jl K.l.length,.own jm M.length]),(jl,.grow 3 180 (K.l.map b8).flatten),(jm,.grow 1 3 (cI M)),(jp,.grow 2 187 (K.p.map b9).flatten),(0,ku nM bm T),(jd,.grow 1 3 (cI D))]
def D6 (E:World) (f:ac) (iw js bm jd:Nat) (m:Nat):Prop:=
 ∀(i:Nat) (b:aX) (V:Int→Bool) (jl jm jp:Nat) (K:KS) (M:List Int) (T:List (gB × Int)),f.blocks[i]?=some b→(f.blocks.length:Int) - gi (bP (ah f) f.blocks.length) i<m→G8 f V i→K=vN f (Eo f i).tail→KB f K→I7 f K i→(M.length:Int)≤gi (bP (ah f) f.blocks.length) i→gG f (fun m=>V m.1) T →
  aZ prog E 38 [.po iw 0,.int .i64 i] (Er f iw js bm jd jl jm jp K M T (fN f V)) (fun y O=>∃g:Nat × Nat × Nat × List (gB × Int),y=.tup []∧O=Er f iw js bm jd g.1 g.2.1 g.2.2.1 K M g.2.2.2 (fN f fun j=>V j||fT (ah f) f.blocks.length i j)∧gG f (fun m=>V m.1||fT (ah f) f.blocks.length i m.1) g.2.2.2)
theorem wm (f:ac) (hR:b7 f) (iw js bm jd:Nat):D6 E f iw js bm jd 0:=by
 intro i b V jl jm jp K M T hb hm _ _ _ _ _ _
 have:=hR.lev (i:=i) (List.getElem?_eq_some_iff.1 hb).1
 omega
set_option maxHeartbeats 32000000 in
theorem wn (f:ac) (hA:Iw f E) (iw js bm jd mm:Nat) (ih:D6 E f iw js bm jd mm):D6 E f iw js bm jd (mm+1):=by
 intro i b V jl jm jp K M T hb hm hV hKw hKB hPB hML hT
 obtain ⟨hf,hL,hR,ht,hs⟩:=hA
 have hi:=(List.getElem?_eq_some_iff.1 hb).1
 have hE:=hR.hE
 have hG:=hE.grph
 have hall:∀j:Int,0≤j→j<f.blocks.length→j∈aB (ah f) f.blocks.length:=fun j h0 h1=>hR.memO ⟨h0,h1⟩
 have ho:=hall i (by omega) (by omega)
 have hlv:=hR.lev hi
 have hnb:=hR.nblk
 have hVi:V (i:Int)=false:=hV.2 i (.refl (hR.hs.2.1 i hi))
 have hbm:=w4 hb
 have hbe:f.blocks[i]=b:=(List.getElem?_eq_some_iff.1 hb).2
 have hbg:=du hb
 have hvars:=hf.1
 obtain ⟨hf1,hf2,hf3,hf4,hf5⟩:=id hf
 obtain ⟨hb0,hb1,hb2,hb3,hb4⟩:=hf5 b hbm
 have hsm:=iD _ _ hbm
 have hsh:=hR.hS.2.2.2.2.1
 have hInF:=hR.blkF (i:=(i:Int)) (by omega) (by omega)
 rw[hbg] at hInF
 have hKl:=hKB.len
 obtain ⟨K0,hK0⟩:∃K0,og f K i=K0:=⟨_,rfl⟩
 have hK0B:KB f K0:=hK0▸hKB.entr hR i
 have hK0p:K0.p=K.p:=by rw[←hK0];exact ub _ _
 have hbegK:kE f i=K0:=by unfold kE;rw[←hKw];exact hK0
 have hat:∀k,BI f (i:Int) k=(b.insts.take k).foldl (d5 f) K0:=fun k=>by unfold BI;rw[hbg,←hKw,hK0]
 have hstB:∀k,KB f ((b.insts.take k).foldl (d5 f) K0):=fun k=>KB.stps _ _ hK0B fun x hx=>hInF x (List.mem_of_mem_take hx)
 have hstP:∀k,vP ((b.insts.take k).foldl (d5 f) K0).p:=fun k=>by
  obtain ⟨g1,g2,_⟩:=yH (f:=f) (b.insts.take k) K0 (fun x hx=>hb4 x (List.mem_of_mem_take hx)) (by rw[hK0p];exact hPB.2)
  have h1:=hPB.1
  have h2:(b.insts.take k).length≤b.insts.length:=by rw[w7];omega
  rw[hK0p] at g1
  exact ⟨by omega,g2⟩
 refine q9 (γ:=Nat × Nat × Nat × List (gB × Int)) (x:=fun _=>.tup []) (M:=fun g=>Er f iw js bm jd g.1 g.2.1 g.2.2.1 K M g.2.2.2 (fN f fun j=>V j||fT (ah f) f.blocks.length i j)) (p:=fun g=>gG f (fun m=>V m.1||fT (ah f) f.blocks.length i m.1) g.2.2.2) ?_
 have push:=xS (E:=E) js jl jm (f.vars.length+1) K.l M (by omega) (by omega)
 have rel:=fun jm M=>BZ (E:=E) (t:=ic f) (a9:=dA bm) (a10:=.own jd f.blocks.length) (iw:=iw) (js:=js) (jl:=jl) (jm:=jm) (jp:=jp) (M:=M) hf hL hR ht hs hKB hi
 have made:=fun jl jm jp K M hK hP x hF hty=>xW (E:=E) (f:=f) (K:=K) (t:=ic f) (pr:=uc f) (a9:=dA bm) (a10:=.own jd f.blocks.length) (iw:=iw) (js:=js) (jl:=jl) (jm:=jm) (jp:=jp) (M:=M) hvars hK hP x hF hty
 have pass:=fun jl jm jp K M hK hP x hF hc=>xX (E:=E) (f:=f) (K:=K) (t:=ic f) (pr:=uc f) (a9:=dA bm) (a10:=.own jd f.blocks.length) (iw:=iw) (js:=js) (jl:=jl) (jm:=jm) (jp:=jp) (M:=M) hvars hK hP x hF hc
 have prv:=fun jl jm jp K M (hK:KB f K) (hP:vP K.p) x (hF:bL f x) (hc:18≤x.op∧x.op≤24)=>lI (a9:=dA bm) (a10:=.own jd f.blocks.length) (iw:=iw) (js:=js) (jl:=jl) (jm:=jm) (jp:=jp) (M:=M) (fun _ _ _ h=>iR h) (tP (E:=E) (t:=ic f) (pr:=uc f) hvars hK hP x hF hc)
 unfold Er
 unfold D6 Er at ih
 unfold rA at push
 unfold iQ at rel made pass prv
 refine zp func38 Z (by decide) Z<|ai<|aJ Z<|aq Z<|za (zf j8 Z Z7 (by decide) Z Z)<|za (zo (c:=.po _ _) Zg Z ⟨_,.head⟩ Z)<|zu Z (zj (.r (.l (.l (.l (.r (.r (.r (.rest _))))))))) (push) ?_
 rintro r14 O14 ⟨jm1,rfl,rfl,_⟩
 refine z6<|zz (zb (zc .t6))<|zz (zb (zc .t6))<|zz (zb (zc .t6))<|zz (zb (zc .t5))<|zz (zb (zc .t5))<|zz (zb (zc .t5))<|zz (zb (zc .t6))<|ai<|aJ Z<|aq Z<|za (zf j8 Z sizeOf72 (by decide) Z Z)<|za (zo (c:=.own _ _) isAgg72 Z ⟨_,.head⟩ Z)<|za (qo Xj Z)<|ak Z<|z6<|ai<|aJ Z<|aa Z<|zu Z (zj (.l (.l (.l (.l (.l (.r (.r (.rest _))))))))) (rel jm1 (M++[(K.l.length:Int)])) ?_
 rintro r22 O22 ⟨jl1,rfl,rfl,_⟩
 refine z6 ?_
 rw[hK0]
 refine zz (zb (zc .t6))<|zz (zb (zc .t6))<|zz (zb (zc .t6))<|zz (zb (zc .t6))<|zz (zb (zc .t6))<|zz (zb (zc .t6))<|zz (zb (zc .t6))<|ai<|aJ Z<|aq Z<|za (zf j8 Z jj (by decide) Z Z)<|za (zf jg Z Z8 (by decide) Z Z)<|za (zo (c:=.fro _ _) Zh Z ⟨_,.head⟩ Z)<|aa Z<|za (bv i ju jy Z Z Z hb)<|ae Yo jy Z Z<|y6 (cs:=[.str ⟨#[]⟩,.raw (.slice none 0 0),.raw (.slice none 0 0),.int .i64 0,.int .i64 0,.int .i64 0,.int .i64 0]) Zl Z Z<|fun i5=>y1 jy Z Z Z Z Z Z .head Z<|ze (yc (t:=5) Z .head)<|z6<|zd<|ai<|au ji Z Zq Z Z<|aI Y4 Z<|ap jz Z<|aa Z<|z6 ?_
 have hT0:gG f (Dk V i 0) T:=hT.congr fun m hm=>by
  unfold lf at hm
  rw[wa] at hm
  have h0:=wd hm.1
  unfold Dk
  rw[w9 (show ¬m.2<((0:Nat):Int) by omega),Bool.and_false,Bool.or_false]
 obtain ⟨M1,hM1⟩:∃M1,M++[(K.l.length:Int)]=M1:=⟨_,rfl⟩
 have hM1l:(M1.length:Int)=M.length+1:=by rw[←hM1];simp
 rw[hM1]
 refine zk<|y7 (γ:=Nat × Nat × Nat × List (gB × Int)) [0,1,4,5,32,33] (fun g=>[(34,.int .i64 g.1)]) (fun g=>[(iw,.cells 75 (lY f (ic f) (uc f) js g.2.2.1 ((b.insts.take g.1).foldl (d5 f) K0).p.length (dA bm) (.own jd f.blocks.length))),(js,.cells 136 [.int .i64 ((f.vars.length+1:Nat):Int),.own g.2.1 ((b.insts.take g.1).foldl (d5 f) K0).l.length,.own jm1 M1.length]),(g.2.1,.grow 3 180 (((b.insts.take g.1).foldl (d5 f) K0).l.map b8).flatten),(jm1,.grow 1 3 (cI M1)),(g.2.2.1,.grow 2 187 (((b.insts.take g.1).foldl (d5 f) K0).p.map b9).flatten),(0,ku nM bm g.2.2.2),(jd,.grow 1 3 (cI (fN f V)))]) (fun g=>g.1≤b.insts.length∧gG f (Dk V i g.1) g.2.2.2) (fun g=>b.insts.length - g.1) (0,jl1,jp,T) aK aH (⟨qw _,hT0⟩) ?_
 rintro ⟨k,jq,jr,T1⟩ ⟨hk,hT1⟩
 try dsimp only at *
 obtain ⟨Q,hQ⟩:∃Q,(b.insts.take k).foldl (d5 f) K0=Q:=⟨_,rfl⟩
 have hQB:=hstB k
 have hQP:=hstP k
 have hatk:=hat k
 rw[hQ] at hQB hQP hatk
 rw[hQ]
 refine ai<|ax Z Z<|z6<|zd<|zt Z (fun ck=>?_) (fun ck=>?_)
 ·have hk2:k<b.insts.length:=by simp at ck;omega
  obtain ⟨x,hx⟩:∃x,b.insts[k]?=some x:=⟨_,qt hk2⟩
  have hxm:=w4 hx
  have hF:=hInF x hxm
  have hstep:(b.insts.take (k+1)).foldl (d5 f) K0=d5 f Q x:=by rw[List.take_add_one,hx,List.foldl_append,hQ];rfl
  have hpv:lf f ((i:Int),(k:Int))=(jD x&&iM f Q x):=by rw[vX hb hx,hatk]
  refine zh<|zd<|zk<|ai<|aa Z<|za (bv k jz jx Z Z Z hx)<|ae Y0 jx Z Z<|y6 (cs:=[.int .i64 0,.int .i64 0,.raw (.slice none 0 0),.int .i64 0]) Zf Z Z<|fun i7=>ak Z<|y1 jx Z Z Z Z Z Z .head Z<|ze (yc (t:=7) Z .head)<|z6<|zd<|ai<|au j5 Z Z2 Z Z<|aA Z3 Z<|zg (rp x.op) Z<|aD Z<|z6<|zy Z (fun c=>?_) (fun c=>?_)
  ·have c:¬(18≤x.op∧x.op≤24):=by simp at c;omega
   have hty:bd f x.dst=true∨¬x.op=1:=by
    by_cases e:x.op=1
    ·exact .inl (rh (hF.d e rfl))
    ·exact .inr e
   refine ai<|aJ Z<|ae Y0 jx Z Z<|zu Z (zj (.l (.l (.l (.l (.l (.r (.r (.rest _))))))))) (made jq jm1 jr Q M1 hQB hQP x hF hty) ?_
   rintro r45 O45 ⟨j1,rfl,rfl,_⟩
   refine z6<|zz (zb (zc .t6))<|zz (zb (zc .t6))<|zz (zb (zc .t6))<|zz (zb (zc .t6))<|zz (zb (zc .t6))<|zz (zb (zc .t6))<|zz (zb (zc .t6))<|y5<|aT<|aC Z Z<|aa Z<|z6 ?_
   exact ⟨(k+1,j1,jr,T1),yV,aK,⟨_,(.refl _),by dsimp only;rw[hstep,d5,if_neg c]⟩,⟨hk2,hT1.skip (by rw[hpv,show jD x=false from w9 c];rfl)⟩,by dsimp only;omega⟩
  ·have c:18≤x.op∧x.op≤24:=by simpa using c
   have hck:jD x=true:=w8 c
   rw[hck,Bool.true_and] at hpv
   refine zh<|zd<|ai<|aJ Z<|ae Y0 jx Z Z<|zu Z (zj (.l (.l (.l (.l (.l (.r (.r (.rest _))))))))) (prv jq jm1 jr Q M1 hQB hQP x hF c) ?_
   rintro r48 O48 ⟨rfl,rfl⟩
   refine z6<|zz (zb (zc .t6))<|zz (zb (zc .t6))<|zz (zb (zc .t6))<|zz (zb (zc .t6))<|zz (zb (zc .t6))<|zz (zb (zc .t6))<|zz (zb (zc .t6))<|ye (γ:=List (gB × Int)) [0,1,4,5,7,32,33,34] (fun g=>[]) (fun g=>[(iw,.cells 75 (lY f (ic f) (uc f) js jr Q.p.length (dA bm) (.own jd f.blocks.length))),(js,.cells 136 [.int .i64 ((f.vars.length+1:Nat):Int),.own jq Q.l.length,.own jm1 M1.length]),(jq,.grow 3 180 (Q.l.map b8).flatten),(jm1,.grow 1 3 (cI M1)),(jr,.grow 2 187 (Q.p.map b9).flatten),(0,ku nM bm g),(jd,.grow 1 3 (cI (fN f V)))]) (fun g=>gG f (Dk V i (k+1)) g) ?_ (fun _ _ h=>h) ?_
   ·refine zy Z (fun cp=>?_) (fun cp=>?_)
    ·refine aT<|aJ Z<|aq Z<|za (zf j8 Z sizeOf73 (by decide) Z Z)<|za (zo (c:=dA _) isAgg73 Z ⟨_,.head⟩ Z)<|aa Z<|aa Z<|za (y4 (cps:=[(0,[_]),(1,[_])]) (rs:=[_,_]) Dh Z Z Z)<|az.mapSetS (k:=((i:Int),(k:Int))) DS underlying73 Z Z Z .t5<|z6 ?_
     exact ⟨bT T1 ((i:Int),(k:Int)) 1,(by repeat (first|with_reducible exact ya _ _|refine yt rfl ?_)),trivial,aH,hT1.put hVi (hpv.trans cp)⟩
    ·refine zh ?_
     exact ⟨T1,(by repeat (first|with_reducible exact ya _ _|refine yt rfl ?_)),trivial,aH,hT1.skip (hpv.trans cp)⟩
   ·rintro T2 hT2
    refine aT<|aJ Z<|ae Y0 jx Z Z<|zu Z (zj (.l (.l (.l (.l (.l (.r (.r (.rest _))))))))) (pass jq jm1 jr Q M1 hQB hQP x hF c) ?_
    rintro r58 O58 ⟨⟨j1,j2⟩,rfl,rfl,_⟩
    refine z6<|zz (zb (zc .t6))<|zz (zb (zc .t6))<|zz (zb (zc .t6))<|zz (zb (zc .t6))<|zz (zb (zc .t6))<|zz (zb (zc .t6))<|zz (zb (zc .t6))<|aT<|aC Z Z<|aa Z<|z6 ?_
    exact ⟨(k+1,j1,j2,T2),yV,aK,⟨_,(.refl _),by dsimp only;rw[hstep,d5,if_pos c]⟩,⟨hk2,hT2⟩,by dsimp only;omega⟩
 ·obtain rfl:k=b.insts.length:=by simp at ck;omega
  have hQe:Dw f (kE f i) i=Q:=by unfold Dw;rw[hbegK,hbg,←hQ,qy]
  obtain ⟨p1,p2,pm,p3⟩:=yH (f:=f) (b.insts.take b.insts.length) K0 (fun x hx=>hb4 x (List.mem_of_mem_take hx)) (by rw[hK0p];exact hPB.2)
  rw[hQ,hK0p] at p1 p3
  rw[hQ] at p2
  have hpre:∃l,Q.l=K.l++l:=eX (hK0▸wl _ K) (hQ▸wk _ K0)
  have hTl:=hT1.last hb
  have hv0:(fun m:gB=>V m.1||decide (m.1=(i:Int)))=fun m=>ii f V i [] m.1:=by funext m;unfold ii;simp
  rw[hv0] at hTl
  have hds:(fN f V).set i (oo f i)=fN f (ii f V i []):=DP hi (by unfold ii;simp) (fun j hj=>by unfold ii;simp[hj])
  refine y5<|zd<|ai<|au ji Z Zo Z Z<|au jf Z Y7 Z Z<|aA Yh Z<|ao Z Z<|z6<|ye (γ:=Unit) [0,1,4] (fun u=>[]) (fun u=>[(iw,.cells 75 (lY f (ic f) (uc f) js jr Q.p.length (dA bm) (.own jd f.blocks.length))),(js,.cells 136 [.int .i64 ((f.vars.length+1:Nat):Int),.own jq Q.l.length,.own jm1 M1.length]),(jq,.grow 3 180 (Q.l.map b8).flatten),(jm1,.grow 1 3 (cI M1)),(jr,.grow 2 187 (Q.p.map b9).flatten),(0,ku nM bm T1),(jd,.grow 1 3 (cI (fN f (ii f V i []))))]) (fun u=>True) ?_ (fun _ _ h=>h) ?_
  ·refine zt Z (fun ct=>?_) (fun ct=>?_)
   ·have ct:b.term.kind=1:=ct
    have hvk:bd f b.term.var=true:=by
     have h1:=(hR.run.term _ hbm)
     unfold bH at h1
     rw[if_neg (by omega),if_pos ct] at h1
     simp only[wa] at h1
     exact h1.1.1
    have hdo:dK f Q b.term.var=oo f i:=by unfold oo;rw[hbg,if_pos ct,hQe];rfl
    have dec:=fun bk=>B8 (E:=E) (t:=ic f) (pr:=uc f) (a9:=dA bm) (a10:=.own jd f.blocks.length) (iw:=iw) (js:=js) (jl:=jq) (jm:=jm1) (jp:=jr) (M:=M1) hR hvars hQB bk hvk
    unfold iQ at dec
    rw[hdo] at dec
    refine zr (fun j=>Nat.beq j 12) (by kernel_rfl) Z (zj (.rest _))<|ad 0 Z (cP Z)<|ad 1 Z (zw Z)<|ad 2 Z (zf j8 Z j7 (by decide) Z Z)<|ad 4 Z (cD Z)<|ad 5 Z (cP Z)<|ad 6 Z (bM ji Z Zo Z Z)<|ad 7 Z (bM jf Z wz Z Z)<|ad 8 Z (cR j6 Z)<|yr (i:=3) (j:=9) Z Z (by kernel_rfl) ?_ ?_
    ·refine za (zo (c:=.own _ _) je Z ⟨_,.head⟩ Z)<|z6<|aQ 9 Z<|az.makeMapA<|fun b73=>ze (zb (zc .t5))<|ze (zb (zc .t5))<|ze (zb (zc .t5))<|ze (zb (zc .t5))<|ze (zb (zc .t5))<|z6<|aQ 10 Z<|zu Z (zj (.l (.l (.l (.l (.l (.l (.r (.r (.rest _)))))))))) (dec b73) ?_
     rintro r74 O74 ⟨_,⟨es,rfl,rfl⟩,rfl⟩
     refine z6<|aQ 11 Z<|za (yj (j:=i) wy wz Z Z Z ⟨_,.t7⟩ ((aE _).trans (fq f V)) hi)<|z6<|yf<|yi (i:=12) Z (by kernel_rfl) (by kernel_rfl)<|yy (j:=i) wz Z Z .t7 (by rw[fq];exact hi)<|z6<|ym (by kernel_rfl) ?_
     exact ⟨(),(by repeat (first|with_reducible exact ya _ _|refine yt rfl ?_)),trivial,⟨_,(.keep (.keep (.keep (.keep (.keep (.drop (.refl _))))))),by rw[hds]⟩,trivial⟩
    ·refine az.makeMapA<|fun b73=>ze (zb (zc .t5))<|ze (zb (zc .t5))<|ze (zb (zc .t5))<|ze (zb (zc .t5))<|ze (zb (zc .t5))<|z6<|yr (i:=3) (j:=10) Z Z (by kernel_rfl) ?_ ?_
     ·refine za (zo (c:=.own _ _) je Z ⟨_,.head⟩ Z)<|z6<|aQ 10 Z<|zu Z (zj (.l (.l (.l (.l (.l (.l (.r (.r (.rest _)))))))))) (dec b73) ?_
      rintro r74 O74 ⟨_,⟨es,rfl,rfl⟩,rfl⟩
      refine z6<|aQ 11 Z<|za (yj (j:=i) wy wz Z Z Z ⟨_,.t7⟩ ((aE _).trans (fq f V)) hi)<|z6<|yf<|yi (i:=12) Z (by kernel_rfl) (by kernel_rfl)<|yy (j:=i) wz Z Z .t7 (by rw[fq];exact hi)<|z6<|ym (by kernel_rfl) ?_
      exact ⟨(),(by repeat (first|with_reducible exact ya _ _|refine yt rfl ?_)),trivial,⟨_,(.keep (.keep (.keep (.keep (.keep (.drop (.refl _))))))),by rw[hds]⟩,trivial⟩
     ·refine zu Z (zj (.l (.l (.l (.l (.l (.l (.r (.r (.rest _)))))))))) (dec b73) ?_
      rintro r74 O74 ⟨_,⟨es,rfl,rfl⟩,rfl⟩
      refine z6<|aQ 3 Z<|za (zo (c:=.own _ _) je Z ⟨_,.head⟩ Z)<|z6<|aQ 11 Z<|za (yj (j:=i) wy wz Z Z Z ⟨_,.t7⟩ ((aE _).trans (fq f V)) hi)<|z6<|yf<|yi (i:=12) Z (by kernel_rfl) (by kernel_rfl)<|yy (j:=i) wz Z Z .t7 (by rw[fq];exact hi)<|z6<|ym (by kernel_rfl) ?_
      exact ⟨(),(by repeat (first|with_reducible exact ya _ _|refine yt rfl ?_)),trivial,⟨_,(.keep (.keep (.keep (.keep (.keep (.drop (.refl _))))))),by rw[hds]⟩,trivial⟩
   ·have ct:¬b.term.kind=1:=ct
    have hdo:oo f i=0:=by unfold oo;rw[hbg,if_neg ct]
    have hsame:fN f V=fN f (ii f V i []):=by
     rw[←hds,hdo]
     refine List.ext_getElem? fun q=>?_
     by_cases e:i=q
     ·subst e
      rw[List.getElem?_set_self (by rw[fq];exact hi),m0 hi,hVi];rfl
     ·rw[List.getElem?_set_ne e]
    refine zh ?_
    exact ⟨(),(by repeat (first|with_reducible exact ya _ _|refine yt rfl ?_)),trivial,⟨_,(.refl _),by rw[hsame]⟩,trivial⟩
  ·rintro u _
   obtain ⟨kl,hkl⟩:∃kl,ed (ah f) f.blocks.length i=kl:=⟨_,rfl⟩
   have hkn2:kl.Nodup:=hkl▸xZ (i:Int)
   have hkm:∀c∈kl,c∈ed (ah f) f.blocks.length i:=fun c hc=>by rw[hkl];exact hc
   have hkll:kl.length≤1000:=by
    rw[←hkl];unfold ed
    exact Nat.le_trans (List.length_filter_le _ _) (by rw[bX];exact hf3)
   have hkids:=yG (E:=E) f hE hf3 hi ho .any
   rw[hkl] at hkids
   refine zd<|ai<|aJ Z<|aq Z<|za (zf j8 Z sizeOf68 (by decide) Z Z)<|za (zo (c:=.pf _) isAgg68 Z ⟨_,.head⟩ Z)<|aa Z<|zg (hkids) Z<|ap wy Z<|aa Z<|z6<|zk<|y7 (γ:=Nat × Nat × Nat × Nat × List (gB × Int)) [0,4,81,82] (fun g=>[(83,.int .i64 g.1)]) (fun g=>[(iw,.cells 75 (lY f (ic f) (uc f) js g.2.2.2.1 Q.p.length (dA bm) (.own jd f.blocks.length))),(js,.cells 136 [.int .i64 ((f.vars.length+1:Nat):Int),.own g.2.1 Q.l.length,.own g.2.2.1 M1.length]),(g.2.1,.grow 3 180 (Q.l.map b8).flatten),(g.2.2.1,.grow 1 3 (cI M1)),(g.2.2.2.1,.grow 2 187 (Q.p.map b9).flatten),(0,ku nM bm g.2.2.2.2),(jd,.grow 1 3 (cI (fN f (ii f V i (kl.take g.1)))))]) (fun g=>g.1≤kl.length∧gG f (fun m=>ii f V i (kl.take g.1) m.1) g.2.2.2.2) (fun g=>kl.length - g.1) (0,jq,jm1,jr,T1) aK aH (⟨qw _,hTl⟩) ?_
   rintro ⟨q,ja,jb,jc,T2⟩ ⟨hq,hT2⟩
   try dsimp only at *
   refine ai<|ax Z Z<|z6<|zd<|zt Z (fun cq=>?_) (fun cq=>?_)
   ·have hq2:q<kl.length:=by simp at cq;omega
    have hcm:=hkm _ (qx hq2)
    obtain ⟨⟨c0,c1⟩,cne,cnear⟩:=(re hG hall (by omega)).1 hcm
    obtain ⟨cn,hcn⟩:∃cn:Nat,kl[q]=(cn:Int):=⟨kl[q].toNat,by omega⟩
    have hcl2:cn<f.blocks.length:=by omega
    obtain ⟨hk1,hk2,hk3,hk4⟩:=lM hG hall (by omega) hcm
    have hVc:=FA hG hall (by omega) hV hq2 hkm hkn2
    rw[hcn] at hk1 hk4 hVc cnear cne
    have hway:Q=vN f (Eo f cn).tail:=by rw[FB hR ⟨by omega,by omega⟩ cne cnear,hQe]
    have hPBc:I7 f Q (cn:Int):=by
     have h1:=hPB.1
     rw[qy] at p1
     exact ⟨by rw[hk4];omega,p2⟩
    have hvn:(fun m:gB=>ii f V i (kl.take q) m.1||fT (ah f) f.blocks.length cn m.1)=fun m=>ii f V i (kl.take (q+1)) m.1:=by funext m;rw[←hcn];exact vW hq2 m.1
    have hvn2:(fun j:Int=>ii f V i (kl.take q) j||fT (ah f) f.blocks.length cn j)=ii f V i (kl.take (q+1)):=by funext j;rw[←hcn];exact vW hq2 j
    refine zh<|zd<|zk<|ai<|za (bv q wy wz Z Z Z (by rw[qt hq2,hcn])) ?_
    refine aA j6 Z<|ak Z<|z6<|aT<|aJ Z<|aa Z<|zu Z (zj (.l (.l (.l (.l (.l (.l (.l (.rest _))))))))) (ih cn f.blocks[cn] (ii f V i (kl.take q)) ja jb jc Q M1 T2 (qt hcl2) (by omega) hVc hway hQB hPBc (by omega) hT2) ?_
    rintro r89 O89 ⟨⟨j1,j2,j3,T3⟩,rfl,rfl,h1⟩
    refine z6<|aT<|aC Z Z<|aa Z<|z6 ?_
    exact ⟨(q+1,j1,j2,j3,T3),gn,aK,⟨_,(.refl _),by dsimp only;rw[hvn2,w6]⟩,⟨hq2,by rw[←hvn];exact h1⟩,by dsimp only;omega⟩
   ·obtain rfl:q=kl.length:=by simp at cq;omega
    rw[qy] at hT2
    rw[qy]
    obtain ⟨lq,hlq⟩:=hpre
    have htk:((Q.p.map b9).flatten).take (K.p.length*2)=(K.p.map b9).flatten:=by
     rw[p3,w5,List.flatten_append,List.take_append_of_le_length (by rw[oU];exact Nat.le_refl _),List.take_of_length_le (by rw[oU];exact Nat.le_refl _)]
    have hdec:fN f (ii f V i kl)=fN f fun j=>V j||fT (ah f) f.blocks.length i j:=x8 fun j h0 h1=>by rw[←hkl];exact Ai hG hall (by omega) h0 h1
    have hTf:gG f (fun m=>V m.1||fT (ah f) f.blocks.length i m.1) T2:=hT2.congr fun m hm=>by
     unfold lf at hm
     rw[wa] at hm
     have h0:=wd hm.1
     have h1:m.1<f.blocks.length:=Classical.byContradiction fun hn=>by
      have h2:=hm.2
      have h3:(cA f m.1).insts=[]:=by unfold cA;rw[List.getElem?_eq_none (by omega)];rfl
      rw[h3] at h2
      simp at h2
     rw[←hkl];exact Ai hG hall (by omega) h0.1 h1
    have pop:=BL (E:=E) js ja jb (f.vars.length+1) Q.l M K.l.length (by rw[hlq,qz];omega) (by omega)
    rw[hM1] at pop
    have hlt:Q.l.take K.l.length=K.l:=by rw[hlq,List.take_left]
    rw[hlt] at pop
    unfold rA at pop
    refine y5<|ai<|aJ Z<|aJ Z<|aq Z<|za (zf j8 Z sizeOf72 (by decide) Z Z)<|za (zo (c:=.own _ _) isAgg72 Z ⟨_,.head⟩ Z)<|aa Z<|az.cutTo (j:=K.p.length) Xj sizeOf187 Z Z Z .t4 (by decide) (by rw[oU,p3,qz];omega)<|aq Z<|za (zf j8 Z sizeOf72 (by decide) Z Z)<|yp (l:=[_]) (new:=[_,_,_,_,_,_,_,_,_,_,_]) sizeOf72 Z Z Z Z Z Z .head Z Z<|z6<|aT<|aJ Z<|aq Z<|za (zf j8 Z Z7 (by decide) Z Z)<|za (zo (c:=.po _ _) Zg Z ⟨_,.head⟩ Z)<|zu Z (zj (.r (.l (.l (.l (.r (.r (.r (.rest _))))))))) (pop) ?_
    rintro r104 O104 ⟨rfl,rfl⟩
    refine z6<|y8 (zb (zc .t6))<|y8 (zb (zc .t6))<|y8 (zb (zc .t6))<|y8 (zb (zc .t5))<|y8 (zb (zc .t5))<|y8 (zb (zc .t5))<|y8 (zb (zc .t6))<|yl ?_
    exact ⟨(ja,jb,jc,T2),rfl,⟨_,.refl _,by rw[htk,hdec];rfl⟩,hTf⟩
theorem rr (f:ac) (hA:Iw f E) (iw js bm jd:Nat):∀m,D6 E f iw js bm jd m
 |0=>wm f hA.hR iw js bm jd
 |m+1=>wn f hA iw js bm jd m (rr f hA iw js bm jd m)
end Go.Proofs.YtdilpodccjlkgaaGreatDoor
namespace Go.Proofs.YtdilpodccjlkgaaGreatDoor
open Go.Proofs.Tryz
open Go.Proofs Go.Lib Go.Shelf Go.RowKit
variable {E:World}
set_option maxRecDepth 20000
theorem Ha {f:ac} (K:KS) (v:Int):(gF f K v).p=K.p:=by
 unfold gF;repeat' split
 ·rw[cN,cN]
 ·exact lJ ..
 ·rfl
theorem ue {f:ac}:∀(l:List Int) (K:KS),(l.foldl (gF f) K).p=K.p
 |[],_=>rfl
 |v::l,K=>by rw[List.foldl_cons,ue l,Ha]
theorem Hb {f:ac} {K:KS} (h:KB f K) {v:Int} (hv:aV f v):KB f (gF f K v):=by
 unfold gF
 split
 ·exact (h.add hv fX).add fX hv
 ·split
  ·exact h.both hv fX
  ·exact h
theorem D7 {f:ac}:∀(l:List Int) (K:KS),KB f K→(∀v∈l,aV f v)→KB f (l.foldl (gF f) K)
 |[],_,h,_=>h
 |v::l,K,h,hl=>by rw[List.foldl_cons];exact D7 l _ (Hb h (hl v (.head _))) fun u hu=>hl u (.tail _ hu)
set_option maxHeartbeats 4000000 in
theorem wo {f:ac} {t pr a9 a10:AV} {iw js jl jm jp:Nat} {M:List Int} (hf:small f) :
  aZ prog E 37 [.po iw 0] (iQ f t pr a9 a10 iw js jl jm jp ⟨[],[]⟩ M) (fun y O=>∃g:Nat,y=.tup []∧O=iQ f t pr a9 a10 iw js g jm jp (dI f) M∧True):=by
 refine q9 (γ:=Nat) (x:=fun g=>.tup []) (M:=fun g=>iQ f t pr a9 a10 iw js g jm jp (dI f) M) (p:=fun _=>True) ?_
 have add:=fun jl K hK a b (ha:aV f a) (hb:aV f b) c=>gT (E:=E) (js:=js) (jm:=jm) (M:=M) jl K hK ha hb c
 have same:=fun jl K hK a b (ha:aV f a) (hb:aV f b)=>mn (E:=E) (t:=t) (pr:=pr) (a9:=a9) (a10:=a10) (iw:=iw) (js:=js) (jm:=jm) (M:=M) jl jp 0 K hK ha hb
 have hvars:=hf.1
 have hf1:dI f=(bw f.vars.length).foldl (gF f) ⟨[],[]⟩:=rfl
 rw[hf1]
 unfold iQ at *
 refine zp func37 Z (by decide) Z<|ai<|aJ Z<|aq Z<|za (zf j8 Z jj (by decide) Z Z)<|za (zf jg Z Yc (by decide) Z Z)<|za (zo (c:=.fro _ _) Yn Z ⟨_,.head⟩ Z)<|ap Z9 Z<|aa Z<|z6<|zk<|y7 (γ:=Nat × Nat) [0,8,9] (fun g=>[(10,.int .i64 g.1)]) (fun g=>[(iw,.cells 75 (lY f t pr js jp (⟨[],[]⟩:KS).p.length a9 a10)),(js,.cells 136 [.int .i64 ((f.vars.length+1:Nat):Int),.own g.2 (((bw f.vars.length).take g.1).foldl (gF f) ⟨[],[]⟩).l.length,.own jm M.length]),(g.2,.grow 3 180 ((((bw f.vars.length).take g.1).foldl (gF f) ⟨[],[]⟩).l.map b8).flatten),(jm,.grow 1 3 (cI M)),(jp,.grow 2 187 ((⟨[],[]⟩:KS).p.map b9).flatten)]) (fun g=>g.1≤f.vars.length) (fun g=>f.vars.length - g.1) (0,jl) aK aH (qw _) ?_
 rintro ⟨v,jq⟩ hv
 try dsimp only at *
 have hKB:KB f (((bw f.vars.length).take v).foldl (gF f) ⟨[],[]⟩):=D7 _ _ (KB.emp f) fun u hu=>by
  have:=cX.1 (List.mem_of_mem_take hu)
  exact ⟨this.1,by omega⟩
 have hKp:=ue (f:=f) ((bw f.vars.length).take v) ⟨[],[]⟩
 refine ai<|ax Z Z<|z6<|zd<|zt Z (fun cv=>?_) (fun cv=>?_)
 ·have hv2:v<f.vars.length:=by simp at cv;omega
  have hvv:bd f (v:Int)=true:=by unfold bd;simp;omega
  have hvN:aV f (v:Int):=⟨by omega,by omega⟩
  have nn:aV f (dV f):=fX
  obtain ⟨vr,hx,hvt,hkt⟩:=kR hvv
  clear hvt
  rw[Int.toNat_natCast] at hx
  obtain ⟨_,hmk⟩:=gc hvv
  rw[Int.toNat_natCast] at hmk
  have hstep:((bw f.vars.length).take (v+1)).foldl (gF f) ⟨[],[]⟩=gF f (((bw f.vars.length).take v).foldl (gF f) ⟨[],[]⟩) (v:Int):=by rw[List.take_add_one,eo hv2,List.foldl_append];rfl
  obtain ⟨Q,hQ⟩:∃Q,((bw f.vars.length).take v).foldl (gF f) ⟨[],[]⟩=Q:=⟨_,rfl⟩
  rw[hQ] at hKB hKp hstep
  rw[hQ]
  refine zh<|zd<|zk<|ai<|aa Z<|za (bv v Z9 Yd Z Z Z hx)<|ae isAgg61 Yd Z Z<|y6 (cs:=[.str ⟨#[]⟩,.int .i64 0]) zeroValue61 Z Z<|fun i3=>ak Z<|y1 Yd Z Z Z Z Z Z .head Z<|ze (yc (t:=3) Z .head)<|z6<|zk<|ai<|au Zm Z X2 Z Z<|aA Xg Z<|ao Z Z<|ab Z<|z6<|zt Z (fun c2=>?_) (fun c2=>?_)
  ·have hre:gF f Q (v:Int)=et (et Q (v:Int) (dV f) 64) (dV f) (v:Int) 0:=by unfold gF;rw[if_pos (hkt.trans c2)]
   refine zd<|zr (fun j=>false) (by kernel_rfl) Z (zj (.r (.rest _)))<|ad 0 Z (cP Z)<|ad 1 Z (zw Z)<|ad 2 Z (zf j8 Z Z7 (by decide) Z Z)<|ad 3 Z (zo (c:=.po _ _) Zg Z ⟨_,.head⟩ Z)<|ad 4 Z (cD Z)<|ad 5 Z (cP Z)<|ad 6 Z (zw Z)<|ad 7 Z (zf j8 Z wz (by decide) Z Z)<|ad 8 Z (zo (c:=.int _ _) j6 Z ⟨_,.head⟩ Z)<|aQ 9 Z<|zu Z (zj (.l (.l (.l (.r (.rest _)))))) (add jq Q hKB _ _ hvN nn 64) ?_
   rintro r28 O28 ⟨⟨j1,u1⟩,rfl,rfl,_⟩
   refine z6<|bJ<|zz (zb (zc .t4))<|zz (zb (zc .t4))<|zz (zb (zc .t4))<|zz (zb (zc .t4))<|zz (zb (zc .t4))<|zr (fun j=>false) (by kernel_rfl) Z (zj (.r (.rest _)))<|ad 0 Z (cP Z)<|ad 1 Z (zw Z)<|ad 2 Z (zf j8 Z Z7 (by decide) Z Z)<|ad 3 Z (zo (c:=.po _ _) Zg Z ⟨_,.head⟩ Z)<|ad 4 Z (cP Z)<|ad 5 Z (zw Z)<|ad 6 Z (zf j8 Z wz (by decide) Z Z)<|ad 7 Z (zo (c:=.int _ _) j6 Z ⟨_,.head⟩ Z)<|ad 8 Z (cD Z)<|aQ 9 Z<|zu Z (zj (.l (.l (.l (.r (.rest _)))))) (add j1 _ (hKB.add (c:=64) hvN nn) _ _ nn hvN 0) ?_
   rintro r38 O38 ⟨⟨j2,u2⟩,rfl,rfl,_⟩
   refine z6<|bJ<|zz (zb (zc .t4))<|zz (zb (zc .t4))<|zz (zb (zc .t4))<|zz (zb (zc .t4))<|zz (zb (zc .t4))<|aT<|aC Z Z<|aa Z<|z6 ?_
   exact ⟨(v+1,j2),de,aK,⟨_,(.refl _),by rw[hstep,hre]⟩,hv2,by dsimp only;omega⟩
  ·have c2:¬bf f (v:Int)=2:=by rw[hkt];exact c2
   refine zd<|ye (γ:=Bool) [0,2,8,9,10] (fun u=>[(39,.bool u)]) (fun u=>[(iw,.cells 75 (lY f t pr js jp (⟨[],[]⟩:KS).p.length a9 a10)),(js,.cells 136 [.int .i64 ((f.vars.length+1:Nat):Int),.own jq Q.l.length,.own jm M.length]),(jq,.grow 3 180 (Q.l.map b8).flatten),(jm,.grow 1 3 (cI M)),(jp,.grow 2 187 ((⟨[],[]⟩:KS).p.map b9).flatten)]) (fun u=>u=decide (bf f (v:Int)=0∧(f.params.length:Int)≤(v:Int)∧(aL f (v:Int)).1<0)) ?_ (fun _ _ h=>h) ?_
   ·refine aT<|au Zm Z X2 Z Z<|aA Xg Z<|ao Z Z<|aj Z<|zq (s:=43) Z (fun c1=>?_) (fun c1=>?_)
    ·refine z8 Z Z c1<|aa Z<|z8 Z Z c1<|aJ Z<|z8 Z Z c1<|aq Z<|z8 Z Z c1<|za (zf j8 Z jj (by decide) Z Z)<|z8 Z Z c1<|za (zf jg Z j7 (by decide) Z Z)<|z8 Z Z c1<|za (zo (c:=.fro _ _) je Z ⟨_,.head⟩ Z)<|z8 Z Z c1<|ap wy Z<|z8 Z Z c1<|za (q5 Z Z)<|aw Z c1 Z<|aj Z<|zq (s:=53) Z (fun c2=>?_) (fun c2=>?_)
     ·refine z8 Z Z c2<|aJ Z<|z8 Z Z c2<|aq Z<|z8 Z Z c2<|za (zf j8 Z Yu (by decide) Z Z)<|z8 Z Z c2<|za (zo (c:=.fro _ _) Xe Z ⟨_,.head⟩ Z)<|z8 Z Z c2<|aa Z<|z8 Z Z c2<|za (bv v Zw Yt Z Z Z hmk)<|z8 Z Z c2<|au Zp Z wz Z Z<|z8 Z Z c2<|aA j6 Z<|z8 Z Z c2<|ax Z Z<|aw Z c2 Z<|ab Z<|z6 ?_
      exact ⟨_,(by repeat (first|with_reducible exact ya _ _|refine yt rfl ?_)),aK,aH,by rw[hkt];clear add same;simp_all<;>(intros;omega)⟩
     ·refine z7 Z Z c2<|z7 Z Z c2<|z7 Z Z c2<|z7 Z Z c2<|z7 Z Z c2<|z7 Z Z c2<|z7 Z Z c2<|z7 Z Z c2<|z7 Z Z c2<|ay Z c2 Z<|ab Z<|z6 ?_
      exact ⟨_,(by repeat (first|with_reducible exact ya _ _|refine yt rfl ?_)),aK,aH,by rw[hkt];clear add same;simp_all<;>(intros;omega)⟩
    ·refine z7 Z Z c1<|z7 Z Z c1<|z7 Z Z c1<|z7 Z Z c1<|z7 Z Z c1<|z7 Z Z c1<|z7 Z Z c1<|z7 Z Z c1<|ay Z c1 Z<|aj Z<|z7 Z Z Z<|z7 Z Z Z<|z7 Z Z Z<|z7 Z Z Z<|z7 Z Z Z<|z7 Z Z Z<|z7 Z Z Z<|z7 Z Z Z<|z7 Z Z Z<|ay Z Z Z<|ab Z<|z6 ?_
     exact ⟨_,(by repeat (first|with_reducible exact ya _ _|refine yt rfl ?_)),aK,aH,by rw[hkt];clear add same;simp_all<;>(intros;omega)⟩
   ·rintro u hu
    refine zy Z (fun cu=>?_) (fun cu=>?_)
    ·have hre:gF f Q (v:Int)=iA Q (v:Int) (dV f):=by unfold gF;rw[if_neg c2,if_pos (wd (hu▸cu))]
     refine aT<|aJ Z<|aa Z<|aJ Z<|aq Z<|za (zf j8 Z wz (by decide) Z Z)<|za (zo (c:=.int _ _) j6 Z ⟨_,.head⟩ Z)<|zu Z (zj (.l (.l (.l (.l (.r (.rest _))))))) (same jq Q hKB _ _ hvN nn) ?_
     rintro r70 O70 ⟨j1,rfl,rfl,_⟩
     refine z6<|zz (zb (zc .t4))<|zz (zb (zc .t4))<|zz (zb (zc .t4))<|zz (zb (zc .t4))<|zz (zb (zc .t4))<|aT<|aC Z Z<|aa Z<|z6 ?_
     exact ⟨(v+1,j1),de,aK,⟨_,(.refl _),by rw[hstep,hre];rfl⟩,hv2,by dsimp only;omega⟩
    ·have hre:gF f Q (v:Int)=Q:=by unfold gF;rw[if_neg c2,if_neg (we (hu▸cu))]
     refine zh<|aT<|aC Z Z<|aa Z<|z6 ?_
     exact ⟨(v+1,jq),de,aK,⟨_,(.refl _),by rw[hstep,hre]⟩,hv2,by dsimp only;omega⟩
 ·obtain rfl:v=f.vars.length:=by simp at cv;omega
  have htk:(bw f.vars.length).take f.vars.length=bw f.vars.length:=List.take_of_length_le (by rw[bX];exact Nat.le_refl _)
  rw[htk]
  refine y5<|yl ?_
  exact ⟨jq,rfl,⟨_,.refl _,by rw[ue]⟩,trivial⟩
end Go.Proofs.YtdilpodccjlkgaaGreatDoor
namespace Go.Proofs.YtdilpodccjlkgaaGreatDoor
open Go.Proofs.Tryz
open Go.Proofs Go.Lib Go.Shelf Go.RowKit
theorem IW:dE prog 75 #[(0,3),(3,1),(4,1),(5,1),(6,1),(7,1),(8,1),(9,1),(10,1)] [.raw (.slice none 0 0),.raw (.slice none 0 0),.raw (.slice none 0 0),.raw (.pointer none),.raw (.slice none 0 0),.raw (.slice none 0 0),.raw (.pointer none),.int .i64 0,.raw (.slice none 0 0),.raw (.map none),.raw (.slice none 0 0)]:=⟨_,_,j8,zeroValue75,fun w=>by kernel_rfl,rfl⟩
variable {E:World}
set_option maxRecDepth 20000
def Hy (f:ac):Bool:=bi f&&(dH f&&jZ f)
theorem D8 (f:ac):fN f (fun _=>false)=List.replicate f.blocks.length 0:=by
 unfold fN
 refine List.ext_getElem? fun j=>?_
 rw[w2,List.getElem?_replicate]
 split
 ·rename_i h;rw[eo h];rfl
 ·rename_i h;rw[List.getElem?_eq_none (by rw[bX];omega)];rfl
set_option maxHeartbeats 4000000 in
theorem rY (f:ac) (hA:Iw f E) (hp:Hy f=true):aZ prog E 18 [.agg (bD f)] []
  (fun y O=>∃g:Nat × Nat × Nat × Nat × Nat × Nat × Nat × List (gB × Int),y=.tup [.po g.1 0,.int .i64 0]∧O=Er f g.1 g.2.1 g.2.2.1 g.2.2.2.1 g.2.2.2.2.1 g.2.2.2.2.2.1 g.2.2.2.2.2.2.1 (dI f) [] g.2.2.2.2.2.2.2 (fN f fun j=>fT (ah f) f.blocks.length 0 j)∧gG f (fun m=>fT (ah f) f.blocks.length 0 m.1) g.2.2.2.2.2.2.2):=by
 obtain ⟨hf,hL,hR,ht,hs⟩:=id hA
 have hf3:=hf.2.2.1
 have hvars:=hf.1
 have hnb:=hR.nblk
 have h1:=qH (E:=E) f hf hL
 rw[if_pos (by unfold Hy at hp;rw[hp])] at h1
 have h2:=vz (E:=E) f hf hL ht
 have h3:=kY (E:=E) f hf hL ht
 have h4:=n6 (E:=E) f hf hL ht
 have h5:=BM (E:=E) (f.vars.length+1) (by omega)
 have hpos:=hR.run.pos
 have hE:=hR.hE
 have hG:=hE.grph
 obtain ⟨b0,hb0⟩:∃b,f.blocks[0]?=some b:=⟨_,qt (by omega)⟩
 have hl0:=hR.lev (i:=0) (by omega)
 have hfp:(dI f).p=[]:=ue (f:=f) (bw f.vars.length) ⟨[],[]⟩
 have hblk:=fun iw js bm jd jl jm jp=>rr (E:=E) f hA iw js bm jd (f.blocks.length+1) 0 b0 (fun _=>false) jl jm jp (dI f) [] [] hb0 (by omega) ⟨fun j hj hne=>absurd (fm hG hj (.root hj.rch)) (by simpa using hne),fun _ _=>rfl⟩ (DO hR).symm KB.first ⟨by rw[hfp];have:=hl0.1;show ((0:Nat):Int)≤1100*_;omega,by rw[hfp];exact fun q hq=>(by cases hq)⟩ (by simpa using hl0.1) (gG.emp f)
 have hfir:=fun iw js jl jm jp bm jd=>wo (E:=E) (f:=f) (t:=ic f) (pr:=uc f) (a9:=dA bm) (a10:=.own jd f.blocks.length) (iw:=iw) (js:=js) (jl:=jl) (jm:=jm) (jp:=jp) (M:=[]) hf
 have hdm:=D8 f
 refine q9 (γ:=Nat × Nat × Nat × Nat × Nat × Nat × Nat × List (gB × Int)) (x:=fun g=>.tup [.po g.1 0,.int .i64 0]) (M:=fun g=>Er f g.1 g.2.1 g.2.2.1 g.2.2.2.1 g.2.2.2.2.1 g.2.2.2.2.2.1 g.2.2.2.2.2.2.1 (dI f) [] g.2.2.2.2.2.2.2 (fN f fun j=>fT (ah f) f.blocks.length 0 j)) (p:=fun g=>gG f (fun m=>fT (ah f) f.blocks.length 0 m.1) g.2.2.2.2.2.2.2) ?_
 unfold Er
 unfold Er at hblk
 unfold iQ at hfir
 unfold rA at h5
 unfold bD at *
 refine zp func18 Z (by decide) Z<|ai<|y9 (cs:=_) Z Z Z<|za (jK Z)<|ak Z<|z6<|zd<|ai<|ae jv jj Z Z<|zg (h1) Z<|ak Z<|z6<|ai<|aa Z<|aO Z Z<|z6<|yg Z Z<|zh<|ai<|ae jv jj Z Z<|zg (h2) Z<|za (kw Z)<|za (qa (v:=.pf _) Z Z)<|za (jL Z Z)<|za (qi (v:=.pf _) Z)<|ak Z<|z6<|zd<|ai<|aa Z<|aO Z Z<|z6<|yg Z Z<|zh<|zd<|zr (fun j=>false) (by kernel_rfl) Z (zj (.rest _))<|ad 0 Z (yx jv jj Z Z)<|ad 1 Z (fe Z)<|ad 2 Z (yx jv jj Z Z)<|ad 4 Z (yx jv jj Z Z)<|ad 6 Z (bM jg Z Yc Z Z) ?_
 refine ad 7 Z (fa Yn Z)<|ad 8 Z (Gv.lenM Z9 Z)<|ad 9 Z (wT Z Z)<|ad 11 Z (bM jg Z Yc Z Z)<|ad 12 Z (fa Yn Z)<|ad 13 Z (Gv.lenM Z9 Z)<|aQ 3 Z<|zg (h3) Z<|z6<|aQ 5 Z<|zg (h4) Z<|z6<|aQ 10 Z<|zu Z (zj (.rest _)) (h5) ?_
 rintro r31 O31 ⟨⟨js,jl,jm⟩,rfl,rfl,_⟩
 refine z6<|ad 14 Z (y4 (cps:=[(0,[_,_,_]),(1,[_]),(2,[_]),(3,[_]),(4,[_]),(5,[_])]) (rs:=[_,_,_,_,_,_,_,_,.raw (.slice none 0 0),.raw (.map none),.raw (.slice none 0 0)]) IW Z Z Z)<|aQ 15 Z<|yn (cs:=_) Z Z Z Z<|fun i36=>z6<|ad 16 Z (fZ Z)<|bJ<|gP (off:=8) (k:=2) (T:=187) (fun _=>.head) Z<|fun jp=>zd<|ye (γ:=Nat × Nat) [7] (fun g=>[]) (fun g=>[(i36,.cells 75 (lY f (ic f) (uc f) js jp (dI f).p.length (dA g.1) (.own g.2 f.blocks.length))),(js,.cells 136 [.int .i64 ((f.vars.length+1:Nat):Int),.own jl 0,.own jm 0]),(jl,.grow 3 180 []),(jm,.grow 1 3 []),(jp,.grow 2 187 []),(0,ku nM g.1 []),(g.2,.grow 1 3 (cI (fN f fun _=>false)))]) (fun g=>True) ?_ (fun _ _ h=>h) ?_
 ·refine zr (fun j=>Nat.beq j 9||Nat.beq j 12) (by kernel_rfl) Z (zj (.rest _))<|ad 0 Z (cP Z)<|yo (i:=1) Z (by kernel_rfl) (by kernel_rfl) (by kernel_rfl) (by kernel_rfl) (cP Z)<|yo (i:=3) Z (by kernel_rfl) (by kernel_rfl) (by kernel_rfl) (by kernel_rfl) (bM jg Z Z8 Z Z)<|yo (i:=4) Z (by kernel_rfl) (by kernel_rfl) (by kernel_rfl) (by kernel_rfl) (fa Zh Z)<|yo (i:=5) Z (by kernel_rfl) (by kernel_rfl) (by kernel_rfl) (by kernel_rfl) (Gv.lenM ju Z)<|yr (i:=2) (j:=6) Z Z (by kernel_rfl) ?_ ?_
  ·refine az.makeMapS (c:=nM)<|fun b39=>z6<|yo (i:=7) Z (by kernel_rfl) (by kernel_rfl) (by kernel_rfl) (by kernel_rfl) (zw Z)<|ad 8 Z (zf j8 Z sizeOf73 (by decide) Z Z)<|yr (i:=6) (j:=9) Z Z (by kernel_rfl) ?_ ?_
   ·refine qf (m:=f.blocks.length) wy Zz Z Z Z Z Z (by simp) (by simp) (by show (8:Int)*_≤_;omega) (by omega)<|fun i43=>ze (zb (zc .head))<|ze (zb (zc .t1))<|ze (zb (zc .t2))<|ze (zb (zc .t6))<|ze (zb (zc .t6))<|ze (zb (zc .t6))<|ze (zb (zc .t6))<|z6<|yf<|yi (i:=9) Z (by kernel_rfl) (by kernel_rfl)<|yp (l:=[_]) (new:=[_,_,_,_,_,_,_,_,_,_,_]) sizeOf73 Z Z Z Z Z Z .head Z Z<|z6<|yi (i:=10) Z (by kernel_rfl) (by kernel_rfl)<|aq Z<|z6<|yi (i:=11) Z (by kernel_rfl) (by kernel_rfl)<|za (zf j8 Z j7 (by decide) Z Z)<|z6<|yi (i:=12) Z (by kernel_rfl) (by kernel_rfl)<|yp (l:=[_]) (new:=[_,_,_,_,_,_,_,_,_,_,_]) j7 Z Z Z Z Z Z .head Z Z<|z6<|ym (by kernel_rfl) ?_
    exact ⟨(b39,i43),(by repeat (first|with_reducible exact ya _ _|refine yt rfl ?_)),trivial,⟨_,(.refl _),by rw[hdm,hfp];rfl⟩,trivial⟩
   ·refine yp (l:=[_]) (new:=[_,_,_,_,_,_,_,_,_,_,_]) sizeOf73 Z Z Z Z Z Z .t2 Z Z<|z6<|aQ 6 Z<|qf (m:=f.blocks.length) wy Zz Z Z Z Z Z (by simp) (by simp) (by show (8:Int)*_≤_;omega) (by omega)<|fun i43=>ze (zb (zc .head))<|ze (zb (zc .t1))<|ze (zb (zc .t2))<|ze (zb (zc .t6))<|ze (zb (zc .t6))<|ze (zb (zc .t6))<|ze (zb (zc .t6))<|z6<|yo (i:=10) Z (by kernel_rfl) (by kernel_rfl) (by kernel_rfl) (by kernel_rfl) (zw Z)<|yo (i:=11) Z (by kernel_rfl) (by kernel_rfl) (by kernel_rfl) (by kernel_rfl) (zf j8 Z j7 (by decide) Z Z)<|yf<|yi (i:=12) Z (by kernel_rfl) (by kernel_rfl)<|yp (l:=[_]) (new:=[_,_,_,_,_,_,_,_,_,_,_]) j7 Z Z Z Z Z Z .head Z Z<|z6<|ym (by kernel_rfl) ?_
    exact ⟨(b39,i43),(by repeat (first|with_reducible exact ya _ _|refine yt rfl ?_)),trivial,⟨_,(.refl _),by rw[hdm,hfp];rfl⟩,trivial⟩
  ·refine qf (m:=f.blocks.length) wy Zz Z Z Z Z Z (by simp) (by simp) (by show (8:Int)*_≤_;omega) (by omega)<|fun i43=>z6<|aQ 2 Z<|az.makeMapS (c:=nM)<|fun b39=>ze (zb (zc .t1))<|ze (zb (zc .t1))<|ze (zb (zc .t2))<|ze (zb (zc .t6))<|ze (zb (zc .t6))<|ze (zb (zc .t6))<|ze (zb (zc .t6))<|z6<|yo (i:=7) Z (by kernel_rfl) (by kernel_rfl) (by kernel_rfl) (by kernel_rfl) (zw Z)<|ad 8 Z (zf j8 Z sizeOf73 (by decide) Z Z)<|yf<|yi (i:=9) Z (by kernel_rfl) (by kernel_rfl)<|yp (l:=[_]) (new:=[_,_,_,_,_,_,_,_,_,_,_]) sizeOf73 Z Z Z Z Z Z .head Z Z<|z6<|yi (i:=10) Z (by kernel_rfl) (by kernel_rfl)<|aq Z<|z6<|yi (i:=11) Z (by kernel_rfl) (by kernel_rfl)<|za (zf j8 Z j7 (by decide) Z Z)<|z6<|yi (i:=12) Z (by kernel_rfl) (by kernel_rfl)<|yp (l:=[_]) (new:=[_,_,_,_,_,_,_,_,_,_,_]) j7 Z Z Z Z Z Z .head Z Z<|z6<|ym (by kernel_rfl) ?_
   exact ⟨(b39,i43),(by repeat (first|with_reducible exact ya _ _|refine yt rfl ?_)),trivial,⟨_,(.refl _),by rw[hdm,hfp];rfl⟩,trivial⟩
 ·rintro ⟨bm,jd⟩ _
  rw[hfp]
  refine ai<|aJ Z<|zu Z (zj (.l (.l (.l (.l (.l (.r (.r (.rest _))))))))) (hfir i36 js jl jm jp bm jd) ?_
  rintro r49 O49 ⟨j1,rfl,rfl,_⟩
  refine z6<|ai<|aJ Z<|zu Z (zj (.l (.l (.l (.l (.l (.l (.l (.rest _))))))))) (hblk i36 js bm jd j1 jm jp) ?_
  rintro r51 O51 ⟨⟨j2,j3,j4,T⟩,rfl,rfl,hT⟩
  refine z6<|ai<|aJ Z<|za (fZ Z)<|ak Z<|z6<|zi<|qh (x:=.po _ _) (y:=.int _ _) Z Z ?_
  exact ⟨(i36,js,bm,jd,j2,j3,j4,T),rfl,⟨_,.refl _,by simp only[w6,Bool.false_or,hfp];rfl⟩,by simpa using hT⟩
end Go.Proofs.YtdilpodccjlkgaaGreatDoor
namespace Go.Proofs.YtdilpodccjlkgaaGreatDoor
open Go.Proofs.Tryz
open Go.Proofs Go.Lib Go.Shelf Go.RowKit
theorem Hc:df prog 29 4 1 1 [.bool false]:=⟨_,jk,Z6,zeroValue4,by decide,by decide,by kernel_rfl⟩
variable {E:World}
set_option maxRecDepth 20000
theorem FJ (l:List Bool) (b:Bool):cB l++[.bool b]=cB (l++[b]):=by unfold cB;rw[w5];rfl
def mr (f:ac) (i:Nat):List Bool:=((bw f.blocks.length).take i).flatMap (DL f)
theorem sU {f:ac} {i:Nat} (h:i<f.blocks.length):mr f (i+1)=mr f i++DL f (i:Int):=by
 unfold mr
 rw[List.take_add_one,eo h,List.flatMap_append]
 simp
theorem D9 (f:ac):mr f f.blocks.length=Ep f:=by
 unfold mr Ep
 rw[List.take_of_length_le (by rw[bX];exact Nat.le_refl _)]
theorem wq {f:ac}:∀{l:List aF} {K:KS} {k:Nat} {x:aF},l[k]?=some x→rS f K (l.take (k+1))=rS f K (l.take k)++(if jD x=true then[iM f ((l.take k).foldl (d5 f) K) x] else[])
 |y::l,K,0,x,h=>by
  cases h
  show rS f K [y]=[]++_
  unfold rS rS
  rw[w6];rfl
 |y::l,K,k+1,x,h=>by
  have ih:=wq (f:=f) (l:=l) (K:=d5 f K y) (k:=k) (x:=x) h
  rw[List.take_succ_cons,List.take_succ_cons]
  show (if jD y=true then[iM f K y] else[])++rS f (d5 f K y) (l.take (k+1))=((if jD y=true then[iM f K y] else[])++rS f (d5 f K y) (l.take k))++_
  rw[ih,qv];rfl
theorem wt {f:ac} (hR:b7 f):∀i:Nat,i≤f.blocks.length→(mr f i).length≤i*1024
 |0,_=>by unfold mr;simp
 |i+1,h=>by
  have ih:=wt hR i (by omega)
  have hb:=qt (show i<f.blocks.length by omega)
  have h1:=iD _ _ (w4 hb)
  have h2:=hR.hS.2.2.2.2.1
  have h3:rB (f.blocks[i]'(by omega)).insts≤(f.blocks[i]'(by omega)).insts.length:=List.length_filter_le _ _
  rw[sU (by omega),qz,Ah hb]
  omega
set_option maxHeartbeats 4000000 in
theorem m6 (f:ac) (hA:Iw f E) (hp:Hy f=true):aM prog E 9 [.agg (bD f)] (.tup [.fro 1 ((Ep f).map xw),.int .i64 0]):=by
 have h1:=rY (E:=E) f hA hp
 have hR:=hA.hR
 have hf3:=hA.hf.2.2.1
 have hnb:=hR.nblk
 have hG:=hR.hE.grph
 unfold Er at h1
 unfold bD at *
 refine zp func9 Z (by decide) Z<|ai<|y9 (cs:=_) Z Z Z<|za (jK Z)<|ak Z<|z6<|ai<|ae jv jj Z Z<|zu Z (zj (.rest _)) (h1) ?_
 rintro r13 O13 ⟨⟨iw,js,bm,jd,jl,jm,jp,T⟩,rfl,rfl,hT⟩
 refine za (kw Z)<|za (qa (v:=.po _ _) Z Z)<|za (jL Z Z)<|za (fZ Z)<|ak Z<|z6<|zd<|ai<|aa Z<|aO Z Z<|z6<|yg Z Z<|zh<|ai<|za (jK Z)<|z6<|gm (t:=6) (k:=1) (T:=4) Z<|fun i6=>zd<|ai<|au jg Z Z8 Z Z<|aI Zh Z<|ap ju Z<|aa Z<|z6<|zk<|y7 (γ:=Nat × Nat) [4,20,21] (fun g=>[(22,.int .i64 g.1),(6,.own g.2 (mr f g.1).length)]) (fun g=>[(g.2,.grow 1 4 (cB (mr f g.1))),(iw,.cells 75 (lY f (ic f) (uc f) js jp (dI f).p.length (dA bm) (.own jd f.blocks.length))),(js,.cells 136 [.int .i64 ((f.vars.length+1:Nat):Int),.own jl (dI f).l.length,.own jm ([]:List Int).length]),(jl,.grow 3 180 ((dI f).l.map b8).flatten),(jm,.grow 1 3 (cI ([]:List Int))),(jp,.grow 2 187 ((dI f).p.map b9).flatten),(0,ku nM bm T),(jd,.grow 1 3 (cI (fN f fun j=>fT (ah f) f.blocks.length 0 j)))]) (fun g=>g.1≤f.blocks.length) (fun g=>f.blocks.length - g.1) (0,i6) eh aH (qw _) ?_
 rintro ⟨i,io⟩ hi
 try dsimp only at *
 have hpl:=wt hR i hi
 refine ai<|ax Z Z<|z6<|zd<|zt Z (fun ci=>?_) (fun ci=>?_)
 ·have hi2:i<f.blocks.length:=by simp at ci;omega
  have hb:=qt hi2
  obtain ⟨b,hbe⟩:∃b,f.blocks[i]=b:=⟨_,rfl⟩
  rw[hbe] at hb
  have hbg:=du hb
  have hbm:=w4 hb
  have hsm:=iD _ _ hbm
  have hsh:=hR.hS.2.2.2.2.1
  have hdom:fT (ah f) f.blocks.length 0 (i:Int)=true:=(hG.domB_iff _ _).2 (.root (hR.hs.2.1 i hi2))
  refine zh<|zd<|zk<|ai<|aa Z<|za (bv i ju jy Z Z Z hb)<|ae Yo jy Z Z<|y6 (cs:=[.str ⟨#[]⟩,.raw (.slice none 0 0),.raw (.slice none 0 0),.int .i64 0,.int .i64 0,.int .i64 0,.int .i64 0]) Zl Z Z<|fun i8=>ak Z<|y1 jy Z Z Z Z Z Z .head Z<|ze (yc (t:=8) Z .head)<|z6<|ai<|au ji Z Zq Z Z<|aI Y4 Z<|ap jz Z<|aa Z<|z6 ?_
  have hz:mr f i++rS f (kE f i) (b.insts.take 0)=mr f i:=by rw[List.take_zero];unfold rS;rw[w6]
  refine zk<|y7 (γ:=Nat × Nat) [4,7,20,21,22,28,29] (fun g=>[(30,.int .i64 g.1),(6,.own g.2 (mr f i++rS f (kE f i) (b.insts.take g.1)).length)]) (fun g=>[(g.2,.grow 1 4 (cB (mr f i++rS f (kE f i) (b.insts.take g.1)))),(iw,.cells 75 (lY f (ic f) (uc f) js jp (dI f).p.length (dA bm) (.own jd f.blocks.length))),(js,.cells 136 [.int .i64 ((f.vars.length+1:Nat):Int),.own jl (dI f).l.length,.own jm ([]:List Int).length]),(jl,.grow 3 180 ((dI f).l.map b8).flatten),(jm,.grow 1 3 (cI ([]:List Int))),(jp,.grow 2 187 ((dI f).p.map b9).flatten),(0,ku nM bm T),(jd,.grow 1 3 (cI (fN f fun j=>fT (ah f) f.blocks.length 0 j)))]) (fun g=>g.1≤b.insts.length) (fun g=>b.insts.length - g.1) (0,io) ⟨Z,by rw[hz];rfl,trivial⟩ ⟨_,(.refl _),by rw[hz]⟩ (qw _) ?_
  rintro ⟨k,ko⟩ hk
  try dsimp only at *
  have hwl:(rS f (kE f i) (b.insts.take k)).length≤k:=by
   rw[tU]
   exact Nat.le_trans (List.length_filter_le _ _) (by rw[w7];omega)
  refine ai<|ax Z Z<|z6<|zd<|zt Z (fun ck=>?_) (fun ck=>?_)
  ·have hk2:k<b.insts.length:=by simp at ck;omega
   obtain ⟨x,hx⟩:∃x,b.insts[k]?=some x:=⟨_,qt hk2⟩
   have hkat:BI f (i:Int) k=(b.insts.take k).foldl (d5 f) (kE f i):=by unfold BI kE;rw[hbg]
   have hstep:=wq (f:=f) (K:=kE f i) hx
   refine zh<|zd<|zk<|ai<|aa Z<|za (bv k jz jx Z Z Z hx)<|ae Y0 jx Z Z<|y6 (cs:=[.int .i64 0,.int .i64 0,.raw (.slice none 0 0),.int .i64 0]) Zf Z Z<|fun i10=>ak Z<|y1 jx Z Z Z Z Z Z .head Z<|ze (yc (t:=10) Z .head)<|z6<|ai<|au j5 Z Z2 Z Z<|aA Z3 Z<|zg (rp x.op) Z<|z6<|zy Z (fun c=>?_) (fun c=>?_)
   ·have c:18≤x.op∧x.op≤24:=by simpa using c
    have hck:jD x=true:=w8 c
    rw[if_pos hck] at hstep
    have hval:decide ((bg T ((i:Int),(k:Int))).getD 0=1)=iM f ((b.insts.take k).foldl (d5 f) (kE f i)) x:=by
     rw[hT ((i:Int),(k:Int)),vX hb hx,hck,hkat]
     simp only[hdom,Bool.true_and]
     cases iM f ((b.insts.take k).foldl (d5 f) (kE f i)) x<;>rfl
    refine aT<|za (gQ Z)<|aJ Z<|aq Z<|za (zf j8 Z sizeOf73 (by decide) Z Z)<|za (zo (c:=dA _) isAgg73 Z ⟨_,.t1⟩ Z)<|aa Z<|aa Z<|za (y4 (cps:=[(0,[_]),(1,[_])]) (rs:=[_,_]) Dh Z Z Z)<|za (Gv.lookup1SK (k:=((i:Int),(k:Int))) DS underlying73 Zv Z Z ⟨_,.t6⟩)<|ao Z Z<|y3 (rows:=[[_]]) Hc Z Z Z Z Z<|yq (k:=1) jk Yp Z Z Z Z Z (fun _=>.head) (by rw[aN,Nat.mul_one]) (by decide) Z (by show (_+_)*1≤_;simp<;>omega) (by simp<;>omega)<|fun i49=>za (eu Z)<|z6<|aT<|aC Z Z<|aa Z<|z6 ?_
    exact ⟨(k+1,i49),lu,⟨rfl,congrArg (AV.own _) (by rw[hstep];simp only[qz,List.length_cons,List.length_nil];omega),trivial⟩,⟨_,(.refl _),by dsimp only;rw[hstep,←qv,←hval];exact congrArg (·::_) (congrArg (fun l=>(_,bA.grow 1 _ l)) (FJ _ _))⟩,hk2,by dsimp only;omega⟩
   ·have c:¬(18≤x.op∧x.op≤24):=by simp at c;omega
    rw[if_neg (by unfold jD;simpa using c),w6] at hstep
    refine zh<|aT<|aC Z Z<|aa Z<|z6 ?_
    exact ⟨(k+1,ko),lu,⟨rfl,congrArg (AV.own _) (by rw[hstep]),trivial⟩,⟨_,(.refl _),by dsimp only;rw[hstep]⟩,hk2,by dsimp only;omega⟩
  ·obtain rfl:k=b.insts.length:=by simp at ck;omega
   have hpb:mr f i++rS f (kE f i) (b.insts.take b.insts.length)=mr f (i+1):=by rw[sU hi2,qy];unfold DL;rw[hbg]
   refine y5<|aT<|aC Z Z<|aa Z<|z6 ?_
   exact ⟨(i+1,ko),de,⟨rfl,congrArg (AV.own _) (by rw[hpb]),trivial⟩,⟨_,(.refl _),by dsimp only;rw[hpb]⟩,hi2,by dsimp only;omega⟩
 ·obtain rfl:i=f.blocks.length:=by simp at ci;omega
  rw[D9]
  refine y5<|ai<|za (gQ Z)<|za (eu Z)<|ak Z<|z6<|zz (aS.knowB (t:=2) Z .head (by simp))<|zi<|qh (x:=.fro _ _) (y:=.int _ _) Z Z ?_
  rfl
end Go.Proofs.YtdilpodccjlkgaaGreatDoor
namespace Go.Proofs.YtdilpodccjlkgaaGreatDoor
open Go.Proofs.Tryz
open Go.Proofs Go.Lib
theorem yI {f:ac} (h:bS f) (h64:∀b∈f.blocks,∀x∈b.insts,bB x.num):vG f:=by
 have h1:=h.1
 unfold nt at h1
 simp only[Bool.or_eq_false_iff,decide_eq_false_iff_not] at h1
 obtain ⟨_,_,_,_,_,h6⟩:=h
 exact ⟨by omega,fun b hb=>(h6 b hb).1,fun b hb x hx=>⟨gN ((h6 b hb).2.1 x hx),h64 b hb x hx⟩,fun b hb=>(h6 b hb).2.2⟩
theorem lh {f:ac} (h:bS f):f.params.length≤f.vars.length:=by
 have h1:=h.1
 unfold nt at h1
 simp only[Bool.or_eq_false_iff,decide_eq_false_iff_not] at h1
 omega
theorem ru {f:ac} (h:bS f) (j:Nat):0≤nd f j∧nd f j≤2:=by
 obtain ⟨_,_,h3,_⟩:=h
 unfold nd
 by_cases hj:j<f.vars.length
 ·rw[qt hj];exact ⟨(h3 j hj).2.1,(h3 j hj).2.2.1⟩
 ·rw[List.getElem?_eq_none (by omega)];exact ⟨by decide,by decide⟩
end Go.Proofs.YtdilpodccjlkgaaGreatDoor
namespace Go.Proofs.YtdilpodccjlkgaaGreatDoor
open Go.Proofs.Tryz
open Go.Proofs
def Gh (x y:AV):Prop:=∀I v,bp I x v→bp I y v
def B9 (xs ys:List AV):Prop:=∀I vs,RepL I xs vs→RepL I ys vs
theorem Gh.refl (x:AV):Gh x x:=fun _ _ h=>h
theorem Gh.nil (k:Nat):Gh (.raw (.slice none 0 0)) (.fro k []):=fun _ _ h=>⟨none,0,0,h,rfl,Nat.le_refl _,fun _=>rfl,trivial⟩
theorem B9.nil:B9 [] []:=fun _ _ h=>h
theorem B9.cons {x y:AV} {xs ys:List AV} (h:Gh x y) (hs:B9 xs ys):B9 (x::xs) (y::ys):=fun I _ ⟨v,us,e,h1,h2⟩=>⟨v,us,e,h I v h1,hs I us h2⟩
theorem Gh.agg {xs ys:List AV} (h:B9 xs ys):Gh (.agg xs) (.agg ys):=fun I _ ⟨vs,e,h1⟩=>⟨vs,e,h I vs h1⟩
end Go.Proofs.YtdilpodccjlkgaaGreatDoor
namespace Go.Proofs.YtdilpodccjlkgaaGreatDoor
open Go.Proofs.Tryz
open Go.Proofs Go.Lib Go.Shelf Go.RowKit
theorem Ig:dE prog 61 #[(0,1),(1,1)] [.str ⟨#[]⟩,.int .i64 0]:=⟨_,_,Zm,zeroValue61,fun w=>by kernel_rfl,rfl⟩
theorem Hd:df prog 22 61 2 2 [.str ⟨#[]⟩,.int .i64 0,.str ⟨#[]⟩,.int .i64 0]:=⟨_,Z9,Yd,zeroValue61,by decide,by decide,by kernel_rfl⟩
theorem He:df prog 45 54 2 4 [.int .i64 0,.int .i64 0,.raw (.slice none 0 0),.int .i64 0,.int .i64 0,.int .i64 0,.raw (.slice none 0 0),.int .i64 0]:=⟨_,jz,jx,Zf,by decide,by decide,by kernel_rfl⟩
theorem IX:dE prog 49 #[(0,1),(1,1),(2,2)] [.int .i64 0,.int .i64 0,.int .i64 0,.int .i64 0]:=⟨_,_,jf,zeroValue49,fun w=>by kernel_rfl,rfl⟩
theorem IY:dE prog 51 #[(0,1),(1,1),(2,1),(3,4)] [.str ⟨#[]⟩,.raw (.slice none 0 0),.raw (.slice none 0 0),.int .i64 0,.int .i64 0,.int .i64 0,.int .i64 0]:=⟨_,_,ji,Zl,fun w=>by kernel_rfl,rfl⟩
theorem Hf:df prog 24 51 1 7 [.str ⟨#[]⟩,.raw (.slice none 0 0),.raw (.slice none 0 0),.int .i64 0,.int .i64 0,.int .i64 0,.int .i64 0]:=⟨_,ju,jy,Zl,by decide,by decide,by kernel_rfl⟩
theorem IZ:dE prog 26 #[(0,1),(1,1),(2,1)] [.raw (.slice none 0 0),.raw (.slice none 0 0),.raw (.slice none 0 0)]:=⟨_,_,jg,zeroValue26,fun w=>by kernel_rfl,rfl⟩
variable {E:World}
set_option maxRecDepth 20000
theorem FK {f:ac} (hS:bS f) {b:aX} (hb:b∈f.blocks) {x:aF} (hx:x∈b.insts):x.dst<f.vars.length:=by
 rcases (gN ((hS.2.2.2.2.2 b hb).2.1 x hx)).dst with ⟨h1,h2⟩|⟨h0,_,h3⟩
 ·omega
 ·exact (eV h3).1
theorem wu {f:ac} (ht:bi f=true) (hs:dH f=true) (h64:∀b∈f.blocks,∀x∈b.insts,bB x.num):b7 f:=by
 have hS:=eE ht
 have hE:=dQ ht
 have hSg:=(Bj hE).1 hs
 refine ⟨fun b hb=>?_,hS,hE,hSg,Fg hSg.2.2.1 (fun b hb x hx=>FK hS hb hx) fun b hb p hp=>?_,yI hS h64⟩
 ·unfold bi at ht
  exact List.all_eq_true.1 (D5 ht).2 b hb
 ·have:=eV ((hS.2.2.2.2.2 b hb).1 p hp).1
  exact ⟨this.2,this.1⟩
theorem uf {f:ac} (h:ik f=true):small f∧bi f=true∧dH f=true∧Hy f=true:=by
 unfold ik at h
 simp only[wa] at h
 exact ⟨((m5 f).1 h.1.1).small,h.1.2,h.2.1,by unfold Hy;rw[h.1.2,h.2.1,h.2.2];rfl⟩
def FL:ac:=⟨[⟨⟨#[120,115]⟩,2⟩,⟨⟨#[105]⟩,0⟩],[0,1],[⟨⟨#[97]⟩,[],[⟨18,-1,[0,1],0⟩,⟨18,-1,[0,1],0⟩],⟨2,1,0,0⟩⟩]⟩
theorem Ca:small FL:=by unfold small FL;simp[u6];decide
theorem sV:bi FL=true:=by decide +kernel
theorem wv:dH FL=true:=by decide +kernel
theorem Cb:Hy FL=true:=by decide +kernel
theorem FM:Ep FL=[false,true]:=by decide +kernel
theorem ug (hL:bz E):aM prog E 7 [] (.bool true):=by
 have hR:b7 FL:=wu sV wv fun b hb x hx=>by
  have:b=⟨⟨#[97]⟩,[],[⟨18,-1,[0,1],0⟩,⟨18,-1,[0,1],0⟩],⟨2,1,0,0⟩⟩:=by simpa [FL] using hb
  subst this
  have:x=⟨18,-1,[0,1],0⟩:=by simpa using hx
  subst this
  unfold bB;decide
 have hP:=m6 (E:=E) FL ⟨Ca,hL,hR,sV,wv⟩ Cb
 rw[FM] at hP
 refine zp func7 Z (by decide) Z<|ai<|ab Z<|z6<|ai<|za (y4 (cps:=[(0,[_]),(1,[_])]) (rs:=[_,_]) Ig Z Z Z)<|za (y4 (cps:=[(0,[_])]) (rs:=[_,.int .i64 0]) Ig Z Z Z)<|y3 (rows:=[[_,_],[_,_]]) Hd Z Z Z Z Z<|y3 (rows:=[[_],[_]]) tw Z Z Z Z Z<|y3 (rows:=[[_],[_]]) tw Z Z Z Z Z<|za (y4 (cps:=[(0,[_]),(1,[_]),(2,[_])]) (rs:=[_,_,_,.int .i64 0]) Fo Z Z Z)<|y3 (rows:=[[_],[_]]) tw Z Z Z Z Z<|za (y4 (cps:=[(0,[_]),(1,[_]),(2,[_])]) (rs:=[_,_,_,.int .i64 0]) Fo Z Z Z)<|y3 (rows:=[[_,_,_,_],[_,_,_,_]]) He Z Z Z Z Z<|za (y4 (cps:=[(0,[_]),(1,[_])]) (rs:=[_,_,.int .i64 0,.int .i64 0]) IX Z Z Z)<|za (y4 (cps:=[(0,[_]),(2,[_]),(3,[_,_,_,_])]) (rs:=[_,.raw (.slice none 0 0),_,_,_,_,_]) IY Z Z Z)<|ze (aS.slot (t:=14) Z (Gh.agg (.cons (.refl _) (.cons (.nil 3) (.cons (.refl _) (.cons (.refl _) (.cons (.refl _) (.cons (.refl _) (.cons (.refl _) .nil)))))))))<|y3 (rows:=[[_,_,_,_,_,_,_]]) Hf Z Z Z Z Z<|za (y4 (cps:=[(0,[_]),(1,[_]),(2,[_])]) (rs:=[_,_,_]) IZ Z Z Z)<|y6 (cs:=[.raw (.slice none 0 0),.raw (.slice none 0 0),.raw (.slice none 0 0)]) zeroValue26 Z Z<|fun i1=>y1 jj Z Z Z Z Z Z .head Z<|ze (yc (t:=1) Z .head)<|z6<|ai<|ae jv jj Z Z<|zg (hP) Z<|za (kw Z)<|za (qa (v:=.fro _ _) Z Z)<|za (jL Z Z)<|za (ni Z)<|ak Z<|z6<|ai<|aa Z<|ao Z Z<|aj Z<|z8 Z Z Z<|bc Z<|z8 Z Z Z<|ap jk Z ?_
 refine z8 Z Z Z<|ao Z Z<|aw Z Z Z<|aj Z<|z8 Z Z Z<|bc Z<|z8 Z Z Z<|za (bv 0 jk Z6 Z Z Z Z)<|z8 Z Z Z<|za (yv (c:=.bool _) Ym Z)<|z8 Z Z Z<|aD Z<|aw Z Z Z<|aj Z<|z8 Z Z Z<|bc Z<|z8 Z Z Z<|za (bv 1 jk Z6 Z Z Z Z)<|z8 Z Z Z<|za (yv (c:=.bool _) Ym Z)<|aw Z Z Z<|ab Z<|z6<|zi<|zn (x:=.bool _) Z ?_
 rfl
end Go.Proofs.YtdilpodccjlkgaaGreatDoor
namespace Go.Proofs.YtdilpodccjlkgaaGreatDoor
open Go.Proofs.Tryz
open Go.Proofs Go.Lib Go.Shelf Go.RowKit
variable {E:World}
set_option maxRecDepth 20000
end Go.Proofs.YtdilpodccjlkgaaGreatDoor
namespace Go.Proofs.YtdilpodccjlkgaaGreatDoor
open Go.Proofs.Tryz
open Go.Proofs Go.Lib Go.Shelf Go.RowKit
variable {E:World}
set_option maxRecDepth 20000
theorem lj (op:Int) (h:0≤op∧op≤26):aM prog E 15 [.int .i64 op] (.int .i64 (if 18≤op∧op≤24 then op - 17 else 0)):=by
 refine zp func15 Z (by decide) Z<|ai<|ak Z<|z6<|zd<|ai<|aa Z<|ax Z Z<|aj Z<|zq (s:=5) Z (fun c1=>?_) (fun c1=>?_)
 ·have h1:op<18:=by simpa using c1
  refine z7 Z Z c1<|z7 Z Z c1<|aw Z c1 Z<|z6<|yu Z Z<|ai<|ak Z<|z6<|zi<|zn (x:=.int _ _) Z ?_
  rw[if_neg (by omega)]
 ·have h1:¬op<18:=by simpa using c1
  refine z8 Z Z c1<|aa Z<|z8 Z Z c1<|aY Z Z<|ay Z c1 Z<|z6<|zy Z (fun c2=>?_) (fun c2=>?_)
  ·have h2:24<op:=by simpa using c2
   refine ai<|ak Z<|z6<|zi<|zn (x:=.int _ _) Z ?_
   rw[if_neg (by omega)]
  ·have h2:¬24<op:=by simpa using c2
   refine zh<|ai<|aa Z<|za (Gv.sub Z Z (by unfold kJ;omega))<|ak Z<|z6<|zi<|zn (x:=.int _ _) Z ?_
   rw[if_pos (by omega)]
end Go.Proofs.YtdilpodccjlkgaaGreatDoor
