/- What is reached without a block, by rounds: plain law. No conditions. -/
import Derived.Test.YtbbonnfjealmpaaGreatDoorZl
import Derived.Test.YtbbonnfjealmpaaGreatDoorZf
set_option linter.unusedVariables false
set_option linter.unusedSimpArgs false
set_option linter.unusedSectionVars false
namespace Go.Proofs.YtbbonnfjealmpaaGreatDoor
section
open Go.Proofs.Tryz
open Go.Proofs Go.Lib Go.Shelf Go.RowKit
theorem Cf:em prog 114 #[(0,1),(1,1)] [.int .i64 0,.int .i64 0]:=⟨_,_,Y8,zeroValue114,fun w=>by kernel_rfl,rfl⟩
theorem jP:dn prog 109 114 1 2 [.int .i64 0,.int .i64 0]:=⟨_,Zl,Y9,zeroValue114,by decide,by decide,by kernel_rfl⟩
variable {E:World}
set_option maxRecDepth 20000
theorem bH.dstPhi {f:ab} (h:bH f) {b:aK} (hb:b∈f.blocks) {p:cZ} (hp:p∈b.phis):0≤p.dst∧p.dst<f.vars.length:=by
 have:=((h.2.2.2.2.2 b hb).1 p hp).1
 simpa [bt] using this
theorem bH.dstInst {f:ab} (h:bH f) {b:aK} (hb:b∈f.blocks) {x:aB} (hx:x∈b.insts) (h0:0≤x.dst):x.dst<f.vars.length:=by
 rcases (gh ((h.2.2.2.2.2 b hb).2.1 x hx)).dst with ⟨_,d⟩|⟨_,_,d⟩
 ·omega
 ·have:0≤x.dst∧x.dst<f.vars.length:=by simpa [bt] using d
  exact this.2
theorem small.evs {f:ab} (hf:small f) {k:Nat} (hk:k≤f.blocks.length):(dT f k).length≤2000000:=by
 have h1:=xA (m:=2000) (fun b hb=>by have:=hf.2.2.2.2 b hb;have h2:=this.2.1;have h3:=this.2.2.1;omega) k hk
 have:=hf.2.2.1
 omega
set_option maxHeartbeats 4000000 in
theorem pv (f:ab) (hf:small f) (hS:bH f):bn prog E 118 [.agg (bw f)] []
  fun x O=>∃b:Nat,x=eM b f.vars.length∧O=[(0,dK eP 109 114 b (rP f))]:=by
 have hv:=hf.1
 have hn:=hf.2.2.1
 refine zp func118 U (by decide) U<|ae<|y6 (cs:=_) U U U<|cE U<|z2<|ae<|ak je U Zn U U<|aI Zz U<|aj Z7 U<|y9 (m:=f.vars.length) Yl type109 U U U U U (by simp) (by simp) (by show (24:Int)*_≤_;omega) (by omega) eP 114<|fun b13=>z8 (q8 (v:=eM _ _) U)<|z2<|zb<|ae<|ak je U Zd U U<|aI Zf U<|aj ju U<|aa U<|z2<|zi<|y5 (γ:=Nat) [3,15,16] (fun k=>[(17,.i k)]) (fun k=>[(0,dK eP 109 114 b13 (cM f.vars.length (dT f k)))]) (fun k=>k≤f.blocks.length) (fun k=>f.blocks.length - k) 0 aL ⟨_,(.refl _),by rw[rM];rfl⟩ (w2 _) ?_
 rintro k hk
 refine ae<|ap U U<|z2<|zb<|zn U (fun ck=>?_) (fun ck=>?_)
 ·have hk2:k<f.blocks.length:=by simp at ck;omega
  obtain ⟨b,hbk⟩:∃b,f.blocks[k]=b:=⟨_,rfl⟩
  have hget:f.blocks[k]?=some b:=by rw[qx hk2,hbk]
  have hmem:b∈f.blocks:=hbk▸w3 hk2
  obtain ⟨hb0,hb1,hb2,hb3,hb4⟩:=hf.2.2.2.2 b hmem
  have hevl:=hf.evs hk
  refine zf<|zb<|zi<|ae<|aa U<|z8 (bB k ju Z2 U U U hget)<|ac Yc Z2 U U<|zu (cs:=[.e,.n,.n,.int .i64 0,.int .i64 0,.int .i64 0,.int .i64 0]) Zh U U<|fun i5=>am U<|zj Z2 U U U U U U .head U<|zd (y8 (t:=5) U .head)<|z2<|zb<|ae<|ak jr U Zv U U<|aI Yd U<|aj Z8 U<|aa U<|z2<|zi<|y5 (γ:=Nat) [3,4,5,15,16,17,23,24] (fun j=>[(25,.i j)]) (fun j=>[(0,dK eP 109 114 b13 (cM f.vars.length (dT f k++dW k (b.phis.take j))))]) (fun j=>j≤b.phis.length) (fun j=>b.phis.length - j) 0 aL ⟨_,(.refl _),by rw[show dW k (b.phis.take 0)=[] from rfl,wc]⟩ (w2 _) ?_
  rintro j hj
  refine ae<|ap U U<|z2<|zb<|zn U (fun cj=>?_) (fun cj=>?_)
  ·have hj2:j<b.phis.length:=by simp at cj;omega
   obtain ⟨p,hp⟩:∃p,b.phis[j]=p:=⟨_,rfl⟩
   obtain ⟨hd0,hdn⟩:=hS.dstPhi hmem (hp▸w3 hj2)
   obtain ⟨rows,hrows⟩:∃rows,cM f.vars.length (dT f k++dW k (b.phis.take j))=rows:=⟨_,rfl⟩
   have hdl:p.dst.toNat<(cM f.vars.length (dT f k++dW k (b.phis.take j))).length:=by rw[cX];omega
   have hrl:=kR hdl
   have hsucc:=lX (x:=((k:Int),(-1:Int))) hd0 hdl
   have hrn:=cX f.vars.length (dT f k++dW k (b.phis.take j))
   have hel:(dT f k++dW k (b.phis.take j)).length≤2001000:=by rw[w5,dW,w6,wd];omega
   rw[qz,show dW k (b.phis.take j)++[(p.dst,((k:Int),(-1:Int)))]=dW k (b.phis.take (j+1)) by rw[mz k hj2,hp]] at hsucc
   simp only[hrows] at hdl hrl hsucc hrn
   rw[hrows]
   refine zf<|zb<|zi<|ae<|z8 (bB j Z8 Ze U U U (by rw[qx hj2,hp])) ?_
   refine ac Ys Ze U U<|zu (cs:=[.int .i64 0,.n,.n]) Y1 U U<|fun i7=>zj Ze U U U U U U .head U<|zd (y8 (t:=7) U .head)<|z2<|yb (γ:=Unit) [3,4,5,15,16,17,23,24,25] (fun u=>[]) (fun u=>[(0,dK eP 109 114 b13 (rows.set p.dst.toNat (rows[p.dst.toNat]++[((k:Int),-1)])))]) (fun u=>True) ?_ (fun _ _ h=>h) ?_
   ·refine zr (fun j=>Nat.beq j 13) (by kernel_rfl) U (zo (.rest _))<|ai 0 U (yt (v:=eM _ _) U)<|ai 1 U (db Z4 U j9 U U)<|ai 2 U (dQ jg U)<|ai 3 U (yt (v:=eM _ _) U)<|ai 4 U (db Z4 U j9 U U)<|ai 5 U (dQ jg U)<|ai 6 U (qq (j:=p.dst.toNat) Yl Yr U U (by omega) (by omega))<|ai 8 U (dx U)<|ai 9 U (zz (cps:=[(0,[_]),(1,[_])]) (rs:=[_,_]) Cf U U U)<|yj (i:=7) (j:=10) U U (by kernel_rfl) ?_ ?_
    ·refine qi (j:=p.dst.toNat) (r:=rows[p.dst.toNat]) Xa U (qx hdl) (fun _=>.head)<|fun i36=>z2<|aN 10 U<|zx (rows:=[[_,_]]) jP U U U U U<|z2<|aN 11 U<|yg (k:=2) Zl type114 U U U U U (fun _=>.head) (by rw[eP.av_len];rfl) (by decide) U (by show (_+1)*16≤_;omega) (by show _+1≤_;omega)<|fun i40=>z2<|ai 12 U (qq (j:=p.dst.toNat) Yl Yr U U (by omega) (by omega))<|yc<|yk (i:=13) U (by kernel_rfl) (by kernel_rfl)<|qr (j:=p.dst.toNat) (r:=rows[p.dst.toNat]++[((k:Int),-1)]) Yr U U (by omega) .head .head U (eP.av_push rows[p.dst.toNat] ((k:Int),(-1:Int))) (by simp)<|z2<|yf (by kernel_rfl) ?_
     exact ⟨(),pI,trivial,aE,trivial⟩
    ·refine zx (rows:=[[_,_]]) jP U U U U U<|z2<|aN 7 U<|qi (j:=p.dst.toNat) (r:=rows[p.dst.toNat]) Xa U (qx hdl) (fun _=>.head)<|fun i36=>z2<|aN 11 U<|yg (k:=2) Zl type114 U U U U U (fun _=>.head) (by rw[eP.av_len];rfl) (by decide) U (by show (_+1)*16≤_;omega) (by show _+1≤_;omega)<|fun i40=>z2<|ai 12 U (qq (j:=p.dst.toNat) Yl Yr U U (by omega) (by omega))<|yc<|yk (i:=13) U (by kernel_rfl) (by kernel_rfl)<|qr (j:=p.dst.toNat) (r:=rows[p.dst.toNat]++[((k:Int),-1)]) Yr U U (by omega) .head .head U (eP.av_push rows[p.dst.toNat] ((k:Int),(-1:Int))) (by simp)<|z2<|yf (by kernel_rfl) ?_
     exact ⟨(),pI,trivial,aE,trivial⟩
   ·rintro _ _
    refine aW<|aC U U<|aa U<|z2 ?_
    exact ⟨j+1,tk,aL,⟨_,(.refl _),by rw[hsucc]⟩,hj2,by omega⟩
  ·have hjn:j=b.phis.length:=by simp at cj;omega
   subst hjn
   rw[w4]
   refine y4<|ae<|ak jr U Zw U U<|aI Y3 U<|aj Z6 U<|aa U<|z2<|zi<|y5 (γ:=Nat) [3,4,15,16,17,44,45] (fun j=>[(46,.i j)]) (fun j=>[(0,dK eP 109 114 b13 (cM f.vars.length (dT f k++dW k b.phis++gX k (b.insts.take j))))]) (fun j=>j≤b.insts.length) (fun j=>b.insts.length - j) 0 aL ⟨_,(.refl _),by rw[show gX k (b.insts.take 0)=[] from rfl,wc]⟩ (w2 _) ?_
   rintro j hj
   refine ae<|ap U U<|z2<|zb<|zn U (fun cj=>?_) (fun cj=>?_)
   ·have hj2:j<b.insts.length:=by simp at cj;omega
    obtain ⟨p,hp⟩:∃p,b.insts[j]=p:=⟨_,rfl⟩
    have hev:=kp k hj2
    rw[hp] at hev
    refine zf<|zb<|zi<|ae<|aa U<|z8 (bB j Z6 Za U U U (by rw[qx hj2,hp])) ?_
    refine ac Yj Za U U<|zu (cs:=[.int .i64 0,.int .i64 0,.n,.int .i64 0]) Zr U U<|fun i9=>am U<|zj Za U U U U U U .head U<|zd (y8 (t:=9) U .head)<|z2<|ae<|ak jd U j9 U U<|aA jg U<|z8 (q9 U U)<|z2<|zw U (fun cd=>?_) (fun cd=>?_)
    ·have hd0:0≤p.dst:=by simpa using cd
     have hdn:=hS.dstInst hmem (hp▸w3 hj2) hd0
     rw[if_pos hd0] at hev
     obtain ⟨rows,hrows⟩:∃rows,cM f.vars.length (dT f k++dW k b.phis++gX k (b.insts.take j))=rows:=⟨_,rfl⟩
     have hdl:p.dst.toNat<(cM f.vars.length (dT f k++dW k b.phis++gX k (b.insts.take j))).length:=by rw[cX];omega
     have hrl:=kR hdl
     have hsucc:=lX (x:=((k:Int),(j:Int))) hd0 hdl
     have hrn:=cX f.vars.length (dT f k++dW k b.phis++gX k (b.insts.take j))
     have hel:(dT f k++dW k b.phis++gX k (b.insts.take j)).length≤2002000:=by
      have:=rO k (b.insts.take j)
      rw[wd] at this
      rw[w5,w5,dW,w6];omega
     rw[qz (dT f k++dW k b.phis) (gX k (b.insts.take j)) [(p.dst,((k:Int),(j:Int)))],←hev] at hsucc
     simp only[hrows] at hdl hrl hsucc hrn
     rw[hrows]
     refine yb (γ:=Unit) [3,4,15,16,17,44,45,46] (fun u=>[]) (fun u=>[(0,dK eP 109 114 b13 (rows.set p.dst.toNat (rows[p.dst.toNat]++[((k:Int),(j:Int))])))]) (fun u=>True) ?_ (fun _ _ h=>h) ?_
     ·refine zr (fun j=>Nat.beq j 14) (by kernel_rfl) U (zo (.rest _))<|ai 0 U (yt (v:=eM _ _) U)<|ai 1 U (db jd U j9 U U)<|ai 2 U (dQ jg U)<|ai 3 U (yt (v:=eM _ _) U)<|ai 4 U (db jd U j9 U U)<|ai 5 U (dQ jg U)<|ai 6 U (qq (j:=p.dst.toNat) Yl Yr U U (by omega) (by omega))<|ai 8 U (dx U)<|ai 9 U (dx U)<|ai 10 U (zz (cps:=[(0,[_]),(1,[_])]) (rs:=[_,_]) Cf U U U)<|yj (i:=7) (j:=11) U U (by kernel_rfl) ?_ ?_
      ·refine qi (j:=p.dst.toNat) (r:=rows[p.dst.toNat]) Xa U (qx hdl) (fun _=>.head)<|fun i61=>z2<|aN 11 U<|zx (rows:=[[_,_]]) jP U U U U U<|z2<|aN 12 U<|yg (k:=2) Zl type114 U U U U U (fun _=>.head) (by rw[eP.av_len];rfl) (by decide) U (by show (_+1)*16≤_;omega) (by show _+1≤_;omega)<|fun i66=>z2<|ai 13 U (qq (j:=p.dst.toNat) Yl Yr U U (by omega) (by omega))<|yc<|yk (i:=14) U (by kernel_rfl) (by kernel_rfl)<|qr (j:=p.dst.toNat) (r:=rows[p.dst.toNat]++[((k:Int),(j:Int))]) Yr U U (by omega) .head .head U (eP.av_push rows[p.dst.toNat] ((k:Int),(j:Int))) (by simp)<|z2<|yf (by kernel_rfl) ?_
       exact ⟨(),tk,trivial,aE,trivial⟩
      ·refine zx (rows:=[[_,_]]) jP U U U U U<|z2<|aN 7 U<|qi (j:=p.dst.toNat) (r:=rows[p.dst.toNat]) Xa U (qx hdl) (fun _=>.head)<|fun i61=>z2<|aN 12 U<|yg (k:=2) Zl type114 U U U U U (fun _=>.head) (by rw[eP.av_len];rfl) (by decide) U (by show (_+1)*16≤_;omega) (by show _+1≤_;omega)<|fun i66=>z2<|ai 13 U (qq (j:=p.dst.toNat) Yl Yr U U (by omega) (by omega))<|yc<|yk (i:=14) U (by kernel_rfl) (by kernel_rfl)<|qr (j:=p.dst.toNat) (r:=rows[p.dst.toNat]++[((k:Int),(j:Int))]) Yr U U (by omega) .head .head U (eP.av_push rows[p.dst.toNat] ((k:Int),(j:Int))) (by simp)<|z2<|yf (by kernel_rfl) ?_
       exact ⟨(),tk,trivial,aE,trivial⟩
     ·rintro _ _
      refine aW<|aC U U<|aa U<|z2 ?_
      exact ⟨j+1,lg,aL,⟨_,(.refl _),by rw[hsucc]⟩,hj2,by omega⟩
    ·have hd0:¬0≤p.dst:=by simpa using cd
     rw[if_neg hd0,wc] at hev
     refine zf<|aW<|aC U U<|aa U<|z2 ?_
     exact ⟨j+1,lg,aL,⟨_,(.refl _),by rw[hev]⟩,hj2,by omega⟩
   ·have hjn:j=b.insts.length:=by simp at cj;omega
    subst hjn
    rw[w4]
    refine y4<|aW<|aC U U<|aa U<|z2 ?_
    exact ⟨k+1,bW,aL,⟨_,(.refl _),by rw[gH hk2,hbk,rN,qz]⟩,hk2,by omega⟩
 ·have hkn:k=f.blocks.length:=by simp at ck;omega
  subst hkn
  refine y4<|ae<|z8 (yt (v:=eM _ _) U)<|z8 (q8 (v:=eM _ _) U)<|z2<|zg<|zm (x:=eM _ _) U ?_
  exact ⟨b13,rfl,rfl⟩
end
section
open Go.Proofs.Tryz
open Go.Proofs Go.Lib Go.Shelf Go.RowKit
variable {E:World}
set_option maxRecDepth 20000
theorem dN {f:ab} (h:bf f=true):bH f:=by
 unfold bf at h
 rw[wh,iZ] at h
 exact wk h.1
theorem Mq (l:List km):((eP.av l++[AV.int .i64 (-1),AV.int .i64 0]).drop 0).take 2=[AV.int .i64 (l.head?.getD (-1,0)).1,AV.int .i64 (l.head?.getD (-1,0)).2]:=by cases l<;>rfl
theorem vB {f:ab} (hf:small f) {v:Nat} (h:v<f.vars.length):(bp f v).length≤2000000:=by
 have h1:=fQ (dT f f.blocks.length) h
 have h2:v<(cM f.vars.length (dT f f.blocks.length)).length:=by rw[cX];exact h
 have h3:=kR h2
 have h4:=hf.evs (Nat.le_refl _)
 rw[qx h2,nZ] at h1
 rw[Option.some.inj h1] at h3
 omega
theorem lZ (f:ab) (hf:small f) (hL:bx E) (ht:bf f=true):aP prog E 75 [.agg (bw f)] (.fro 2 ((dp f).map eP.row)):=by
 have hv:=hf.1
 refine zp func75 U (by decide) U<|ae<|y6 (cs:=_) U U U<|cE U<|z2<|zb<|ae<|ac Z0 ji U U<|ze (ng f hf hL) U<|aO U U<|z2<|yq U (by rw[ht];rfl)<|zf<|ae<|cE U<|z2<|zb<|ae<|ac Z0 ji U U<|y3 U (zo (.rest _)) (pv f hf (dN ht)) ?_
 rintro r10 O10 ⟨b10,rfl,rfl⟩
 refine z8 (Gv.lenN Yl U)<|aa U<|z2<|gc (t:=3) (k:=2) (T:=114) U<|fun i3=>y7 (aR.nestTail .t1)<|zi<|y5 (γ:=Nat × Nat) [10,11] (fun g=>[(12,.i g.1),(3,.own g.2 g.1)]) (fun g=>[(g.2,.grow 2 114 (((dp f).take g.1).map eP.row).flatten),(0,BX eP 109 114 b10 (rP f) g.1)]) (fun g=>g.1≤f.vars.length) (fun g=>f.vars.length - g.1) (0,i3) b7 aE (w2 _) ?_
 rintro ⟨k,i3⟩ hk
 try dsimp only at *
 refine ae<|ap U U<|z2<|zb<|zn U (fun ck=>?_) (fun ck=>?_)
 ·have hk2:k<f.vars.length:=by simp at ck;omega
  have hml:=vB hf hk2
  have hmt:(dp f)[k]?=some (aD f k):=jO hk2
  have hkm:k<(dp f).length:=by rw[lY];exact hk2
  have hmk:(dp f)[k]=aD f k:=by rw[qx hkm] at hmt;exact Option.some.inj hmt
  refine zf<|zb<|zi<|ae<|z8 (qq (j:=k) Yl Yr U U U (by omega))<|ay.nestShift Xa U (rQ hk2) .t1<|fun i15=>z8 (ei U)<|z2<|ae<|bL U<|z8 (zz (cps:=[(0,[_]),(1,[_])]) (rs:=[_,_]) Cf U U U)<|zx (rows:=[[_,_]]) jP U U U U U<|yg (k:=2) Zl type114 U U U U U (fun _=>.head) (by rw[eP.av_len];rfl) (by decide) U (by show (_+1)*16≤_;omega) (by show _+1≤_;omega)<|fun i19=>z8 (ei U)<|z2<|aW<|bL U<|bL U<|z8 (Gv.idxO (j:=0) Zl Y9 U U U ⟨_,.head⟩ (by simp) (by show 0<_+1;omega))<|z8 (Gv.loadAG (l:=[_,_]) isAgg114 Y9 U ⟨_,.head⟩ (by simp) (by simp) (Mq _))<|zx (rows:=[[_,_]]) jP U U U U U<|yg (k:=2) Zl type114 U U U U U (fun _=>.t1) (by rw[d6 (k:=2) (fun _=>rfl),wd,Nat.min_eq_left (by omega)]) (by decide) U (by show (_+1)*16≤_;omega) (by show _+1≤_;omega)<|fun i25=>z8 (ei U)<|z2<|y7 (qf .head)<|aW<|aC U U<|aa U<|z2 ?_
  exact ⟨(k+1,i25),b7,b7,⟨_,(.refl _),by rw[←eS (qy hkm),hmk];rfl⟩,hk2,by dsimp only;omega⟩
 ·have hkn:k=f.vars.length:=by simp at ck;omega
  subst hkn
  rw[show (dp f).take f.vars.length=dp f by rw[←lY f,w4]]
  refine y4<|ae<|bL U<|z8 (ei U)<|z2<|zg ?_
  repeat (first|refine ki ?_|refine gR ?_)
  refine yz (aR.know (t:=2) (rows:=(dp f).map eP.row) U .head (by first|(intro r hr;obtain ⟨x,_,rfl⟩:=List.mem_map.1 hr;rfl)|simp[bO,bF,dA,bq,bD]) (by decide) (by rw[w6,lY]))<|zm (x:=.fro _ _) U ?_
  rfl
theorem Dv (f:ab) (hf:small f) (hS:bH f):aP prog E 102 [.agg (bw f)] (.bool (mR f)):=by
 have hv:=hf.1
 refine zp func102 U (by decide) U<|ae<|y6 (cs:=_) U U U<|ad U<|z2<|zb<|ae<|ac Z0 ji U U<|y3 U (zo (.rest _)) (pv f hf hS) ?_
 rintro r6 O6 ⟨b6,rfl,rfl⟩
 refine z8 (Gv.lenN Yl U)<|aa U<|z2<|y7 (aR.nestKnow (s:=6) U .head (AJ f))<|zi<|y5 (γ:=Nat) [1,6,7] (fun k=>[(8,.i k)]) (fun k=>[]) (fun k=>k≤f.vars.length∧(List.range k).all (kq f)=true) (fun k=>f.vars.length - k) 0 aL aE (⟨w2 _,U⟩) ?_
 rintro k ⟨hk,hall⟩
 refine ae<|ap U U<|z2<|zb<|zn U (fun ck=>?_) (fun ck=>?_)
 ·have hk2:k<f.vars.length:=by simp at ck;omega
  refine zf<|zb<|zi<|ae<|aa U<|z8 (bB k Yl Yr U U U (rQ hk2))<|aI Xa U<|am U<|z8 (oA U)<|z2<|ae<|bd U<|aj Zl U<|be U U<|aq U<|zt (s:=16) U (fun c1=>?_) (fun c1=>?_)
  ·have d1:1<(bp f k).length:=by have h0:(1:Int)<((bp f k).length:Int):=(by simpa using c1);omega
   refine z6 U U c1<|z6 U U c1<|z6 U U c1<|z6 U U c1<|zk U U<|zk U U<|zk U U<|zk U U<|zk U U<|z6 U U c1<|au U c1 U<|z2<|yr U U<|ae<|ad U<|z2<|zg<|zm (x:=.bool _) U ?_
   rw[show mR f=false from dL hk2 (by unfold kq;simp[d1])]
  ·have d1:¬1<(bp f k).length:=by have h0:¬(1:Int)<((bp f k).length:Int):=(by simpa using c1);omega
   refine z7 U U c1<|bd U<|z7 U U c1<|aj Zl U<|z7 U U c1<|be U U<|z7 U U c1<|aq U<|zt (s:=20) U (fun c2=>?_) (fun c2=>?_)
   ·have d2:bp f k≠[]:=by have h0:0<(bp f k).length:=(by simpa using c2);exact List.ne_nil_of_length_pos h0
    refine z7 U U c2<|aa U<|z7 U U c2<|ak je U jh U U<|z7 U U c2<|aI jx U<|z7 U U c2<|aj j7 U<|z7 U U c2<|ap U U<|z7 U U c1<|au U c2 U<|aw U c1 U<|z2<|zw U (fun c3=>?_) (fun c3=>?_)
    ·have d3:k<f.params.length:=by simpa using c3
     refine ae<|ad U<|z2<|zg<|zm (x:=.bool _) U ?_
     rw[show mR f=false from dL hk2 (by unfold kq;simp[d2,d3,List.length_pos_iff])]
    ·have d3:¬k<f.params.length:=by simpa using c3
     refine zf<|aW<|aC U U<|aa U<|z2 ?_
     exact ⟨k+1,bW,aL,aE,⟨hk2,cL hall (by unfold kq;simp[d1,d3])⟩,by omega⟩
   ·have d2:bp f k=[]:=by simpa using c2
    refine z6 U U c2<|z6 U U c2<|z6 U U c2<|z6 U U c2<|z6 U U c2<|z7 U U c1<|aw U c2 U<|aw U c1 U<|z2<|yq U U<|zf<|aW<|aC U U<|aa U<|z2 ?_
    exact ⟨k+1,bW,aL,aE,⟨hk2,cL hall (by unfold kq;simp[d2])⟩,by omega⟩
 ·have hkn:k=f.vars.length:=by simp at ck;omega
  subst hkn
  refine y4<|ae<|ad U<|z2<|zg<|zm (x:=.bool _) U ?_
  rw[show mR f=true from hall]
end
section
open Go.Proofs.Tryz
open Go.Proofs Go.Lib Go.Shelf Go.RowKit
variable {E:World}
set_option maxRecDepth 20000
theorem pR {p:Int→Bool} {fn:FuncId} {c:List AV} (xs:List Int) (hl:xs.length≤281474976710656) (hp:∀x∈xs,aP prog E fn ([.int .i64 x]++c) (.bool (p x))) :
  aP prog E 182 [.fro 1 (xs.map bO),.fn fn [] c] (.int .i64 (cS p xs 0)):=by
 refine zp func182 U (by decide) U<|ae<|am U<|z2<|zb<|ae<|bd U<|aj j7 U<|aa U<|z2<|zi<|y5 (γ:=Nat) [0,1,7] (fun k=>[(8,.i k)]) (fun k=>[]) (fun k=>k≤xs.length∧(xs.take k).all (fun x=>!p x)) (fun k=>xs.length - k) 0 aL aE (⟨w2 _,U⟩) ?_
 rintro k ⟨hk,hall⟩
 refine ae<|ap U U<|z2<|zb<|zn U (fun ck=>?_) (fun ck=>?_)
 ·have hk2:k<xs.length:=by simp at ck;omega
  refine zf<|zb<|zi<|ae<|aa U<|am U<|z2<|ae<|z8 (yt (v:=.fn _ _ _) U)<|bd U<|aa U<|z8 (bB k j7 j9 U U U (qx hk2))<|aA jg U<|ay.callVP U (hp _ (w3 hk2)) U<|z2<|zw U (fun cp=>?_) (fun cp=>?_)
  ·refine ae<|aa U<|am U<|z2<|zg<|zm (x:=.int _ _) U ?_
   rw[bZ p xs k hk hall,List.drop_eq_getElem_cons hk2,cS,if_pos cp]
  ·refine zf<|aW<|aC U U<|aa U<|z2 ?_
   exact ⟨k+1,bW,aL,aE,⟨hk2,by rw[qy hk2,List.all_append,hall];simp[cp]⟩,by omega⟩
 ·have hkn:k=xs.length:=by simp at ck;omega
  refine y4<|ae<|am U<|z2<|zg<|zm (x:=.int _ _) U ?_
  rw[bZ p xs k hk hall,hkn,List.drop_length,cS]
theorem nj {p:Int→Bool} {fn:FuncId} {c:List AV} (xs:List Int) (hl:xs.length≤281474976710656) (hp:∀x∈xs,aP prog E fn ([.int .i64 x]++c) (.bool (p x))) :
  aP prog E 140 [.fro 1 (xs.map bO),.fn fn [] c] (.bool (xs.any p)):=by
 refine zp func140 U (by decide) U<|ae<|ad U<|z2<|ae<|bd U<|z8 (yt (v:=.fn _ _ _) U)<|ze (pR xs hl hp) U<|z8 (q9 U U)<|ad U<|z2<|zg<|zm (x:=.bool _) U ?_
 rw[fX]
theorem kT (f:ab) (hE:cg f) (hn:f.blocks.length≤1000) (m:km) (b a:Int) (x y:AV):aP prog E 79 [rX f x y,.agg [.int .i64 m.1,.int .i64 m.2],.int .i64 b,.int .i64 a] (.bool (eC f m b a)):=by
 refine zp func79 U (by decide) U<|ae<|y6 (cs:=_) U U U<|ad U<|z2<|zb<|zi<|ae<|ak Y8 U j9 U U<|aA jg U<|ap U U<|ad U<|z2<|zn U (fun c0=>?_) (fun c0=>?_)
 ·refine ae<|ad U<|z2<|zg<|zm (x:=.bool _) U ?_
  rw[eC,if_pos c0]
 ·refine ae<|ak Y8 U j9 U U<|aA jg U<|aa U<|ao U U<|ad U<|z2<|zw U (fun c1=>?_) (fun c1=>?_)
  ·have d1:m.1=b:=by simpa using c1
   refine ae<|ak Y8 U j9 U U<|aA jg U<|aa U<|ap U U<|ad U<|z2<|zg<|zm (x:=.bool _) U ?_
   rw[eC,if_neg c0,if_pos d1]
  ·have d1:¬m.1=b:=by simpa using c1
   refine zf<|ae<|z8 (tv U)<|ak Y8 U j9 U U<|aA jg U<|aa U<|ze (Ds f hE hn m.1 b x y) U<|ad U<|z2<|zg<|zm (x:=.bool _) U ?_
   rw[eC,if_neg c0,if_neg d1]
theorem nk {f:ab} {v:Int} (h:bt f v=true):0≤v∧(dp f)[v.toNat]?=some (aD f v):=by
 have h1:0≤v∧v<f.vars.length:=by simpa [bt] using h
 refine ⟨h1.1,?_⟩
 have:=jO (f:=f) (v:=v.toNat) (by omega)
 rwa [show ((v.toNat:Nat):Int)=v by omega] at this
theorem vC (f:ab) (hE:cg f) (hn:f.blocks.length≤1000) (i k:Nat) (v:Int) (hv:bt f v=true) (x y:AV) :
  aP prog E 141 ([.int .i64 v]++[.pf [rX f x y],.pf [.fro 2 ((dp f).map eP.row)],.pf [.int .i64 i],.pf [.int .i64 k]]) (.bool (!eC f (aD f v) i k)):=by
 obtain ⟨hv0,hvg⟩:=nk hv
 refine zp func141 U (by decide) U<|ae<|ad U<|z2<|zb<|zr (fun j=>false) (by kernel_rfl) U (zo (.rest _))<|ai 0 U (qe (c:=.pf _) isAgg143 U)<|ai 1 U (gd Xa U)<|ai 2 U (dx U)<|ai 3 U (bB v.toNat Zl Y9 U U (by omega) hvg)<|ai 4 U (yp isAgg114 Y9 U U)<|ai 5 U (dQ jg U)<|ai 6 U (dQ jg U)<|aN 7 U<|ze (kT f hE hn (aD f v) i k x y) U<|z2<|ai 8 U (Gv.not U)<|ai 9 U (qO U)<|bI<|zg<|zm (x:=.bool _) U ?_
 rfl
set_option maxHeartbeats 4000000 in
theorem xO (f:ab) (hE:cg f) (hf:small f) (hS:bH f) (i:Nat) (hi:i<f.blocks.length) (x y:AV) :
  aP prog E 103 [.agg (bw f),rX f x y,.fro 2 ((dp f).map eP.row),.int .i64 i] (.bool (Lg f i)):=by
 have hn:=hf.2.2.1
 obtain ⟨b,hbk⟩:∃b,f.blocks[i]=b:=⟨_,rfl⟩
 have hget:f.blocks[i]?=some b:=by rw[qx hi,hbk]
 have hmem:b∈f.blocks:=hbk▸w3 hi
 obtain ⟨hb0,hb1,hb2,hb3,hb4⟩:=hf.2.2.2.2 b hmem
 obtain ⟨hPh,hIn,hTm⟩:=hS.2.2.2.2.2 b hmem
 rw[rR hget]
 refine zp func103 U (by decide) U<|ae<|y6 (cs:=_) U U U<|y6 (cs:=[_]) U U U<|y6 (cs:=[_]) U U U<|y6 (cs:=[_]) U U U<|ad U<|z2<|ae<|ak je U Zd U U<|aI Zf U<|aA jg U<|z8 (bB i ju Z2 U U U hget)<|ac Yc Z2 U U<|zu (cs:=[.e,.n,.n,.int .i64 0,.int .i64 0,.int .i64 0,.int .i64 0]) Zh U U<|fun i9=>zj Z2 U U U U U U .head U<|zd (y8 (t:=9) U .head)<|z2<|zb<|ae<|ak jr U Zv U U<|aI Yd U<|aj Z8 U<|aa U<|z2<|zi<|y5 (γ:=Nat) [4,5,6,7,9,23,24] (fun j=>[(25,.i j)]) (fun j=>[]) (fun j=>j≤b.phis.length∧(b.phis.take j).all (JV f)=true) (fun j=>b.phis.length - j) 0 aL aE (⟨w2 _,U⟩) ?_
 rintro j ⟨hj,hjall⟩
 refine ae<|ap U U<|z2<|zb<|zn U (fun cj=>?_) (fun cj=>?_)
 ·have hj2:j<b.phis.length:=by simp at cj;omega
  obtain ⟨p,hp⟩:∃p,b.phis[j]=p:=⟨_,rfl⟩
  have hpm:p∈b.phis:=hp▸w3 hj2
  obtain ⟨hpd,hpl,hpn,hpa,hpf⟩:=hPh p hpm
  have hpb:=hb3 p hpm
  refine zf<|zb<|zi<|ae<|z8 (bB j Z8 Ze U U U (by rw[qx hj2,hp])) ?_
  refine ac Ys Ze U U<|zu (cs:=[.int .i64 0,.n,.n]) Y1 U U<|fun i11=>zj Ze U U U U U U .head U<|zd (y8 (t:=11) U .head)<|z2<|ae<|ak Z4 U jh U U<|aI jx U<|aj j7 U<|aa U<|z2<|zi<|y5 (γ:=Nat) [4,5,6,7,9,11,23,24,25,30,31] (fun k=>[(32,.i k)]) (fun k=>[]) (fun k=>k≤p.args.length∧((p.args.zip p.from_).take k).all (fun q=>eC f (aD f q.1) q.2 (fA f q.2))=true) (fun k=>p.args.length - k) 0 aL aE (⟨w2 _,U⟩) ?_
  rintro k ⟨hk,hkall⟩
  refine ae<|ap U U<|z2<|zb<|zn U (fun ck=>?_) (fun ck=>?_)
  ·have hk2:k<p.args.length:=by simp at ck;omega
   have hk3:k<p.from_.length:=by omega
   obtain ⟨v,hv⟩:∃v,p.args[k]=v:=⟨_,rfl⟩
   obtain ⟨c,hc⟩:∃c,p.from_[k]=c:=⟨_,rfl⟩
   obtain ⟨hv0,hvg⟩:=nk (List.all_eq_true.1 hpa v (hv▸w3 hk2))
   have hcr:0≤c∧c<f.blocks.length:=by have:=List.all_eq_true.1 hpf c (hc▸w3 hk3);simpa [eX] using this
   obtain ⟨d,hd⟩:∃d,f.blocks[c.toNat]'(by omega)=d:=⟨_,rfl⟩
   have hdg:f.blocks[c.toNat]?=some d:=by rw[qx (by omega),hd]
   have hla:fA f c=d.insts.length:=by unfold fA;rw[hdg];rfl
   have hz:k<(p.args.zip p.from_).length:=by rw[List.length_zip];omega
   have hzk:(p.args.zip p.from_)[k]=(v,c):=by rw[List.getElem_zip,hv,hc]
   refine zf<|zb<|zi<|ae<|aa U<|z8 (bB k j7 j9 U U U (by rw[qx hk2,hv])) ?_
   refine aA jg U<|am U<|am U<|z2<|ae<|ak Z4 U jh U U<|aI jx U<|aa U<|z8 (bB k j7 j9 U U U (by rw[qx hk3,hc])) ?_
   refine aA jg U<|am U<|z2<|zb<|zr (fun j=>false) (by kernel_rfl) U (zo (.rest _))<|ai 0 U (qe (c:=.pf _) isAgg143 U)<|ai 1 U (gd Xa U)<|ai 2 U (dx U)<|ai 3 U (bB v.toNat Zl Y9 U U (by omega) hvg)<|ai 4 U (yp isAgg114 Y9 U U)<|ai 5 U (dx U)<|ai 6 U (db je U Zd U U)<|ai 7 U (gd Zf U)<|ai 8 U (dx U)<|ai 9 U (bB c.toNat ju Z2 U U (by omega) hdg)<|ai 10 U (db jr U Zw U U)<|ai 11 U (gd Y3 U)<|ai 12 U (Gv.lenM Z6 U)<|aN 13 U<|ze (kT f hE hn (aD f v) c d.insts.length x y) U<|z2<|ai 14 U (Gv.not U)<|bI<|zw U (fun cq=>?_) (fun cq=>?_)
   ·have hq:eC f (aD f v) c (fA f c)=false:=by rw[hla];simpa using cq
    refine ae<|ad U<|z2<|zg<|zm (x:=.bool _) U ?_
    rw[tF,show b.phis.all (JV f)=false from Bool.eq_false_iff.2 (dI hj2 (by rw[hp];unfold JV;exact Bool.eq_false_iff.2 (dI hz (by rw[hzk];exact hq))))];rfl
   ·have hq:eC f (aD f v) c (fA f c)=true:=by rw[hla];simpa using cq
    refine zf<|aW<|aC U U<|aa U<|z2 ?_
    exact ⟨k+1,qP,aL,aE,⟨hk2,bS hz hkall (by rw[hzk];exact hq)⟩,by omega⟩
  ·have hkn:k=p.args.length:=by simp at ck;omega
   have hzl:(p.args.zip p.from_).length=p.args.length:=by rw[List.length_zip];omega
   rw[hkn,←hzl,w4] at hkall
   refine y4<|aW<|aC U U<|aa U<|z2 ?_
   exact ⟨j+1,lg,aL,aE,⟨hj2,bS hj2 hjall (by rw[hp];exact hkall)⟩,by omega⟩
 ·have hjn:j=b.phis.length:=by simp at cj;omega
  subst hjn
  rw[w4] at hjall
  refine y4<|zb<|ae<|ak jr U Zw U U<|aI Y3 U<|aj Z6 U<|aa U<|z2<|zi<|y5 (γ:=Nat) [5,6,7,9,60,61] (fun k=>[(62,.i k)]) (fun k=>[]) (fun k=>k≤b.insts.length∧((b.insts.zipIdx).take k).all (Fm f i)=true) (fun k=>b.insts.length - k) 0 aL aE (⟨w2 _,U⟩) ?_
  rintro k ⟨hk,hkall⟩
  refine ae<|ap U U<|z2<|zb<|zn U (fun ck=>?_) (fun ck=>?_)
  ·have hk2:k<b.insts.length:=by simp at ck;omega
   obtain ⟨z,hzk⟩:∃z,b.insts[k]=z:=⟨_,rfl⟩
   have hzm:z∈b.insts:=hzk▸w3 hk2
   have hI:=gh (hIn z hzm)
   have hzl:=hb4 z hzm
   have hzi:k<b.insts.zipIdx.length:=by simp;exact hk2
   have hze:b.insts.zipIdx[k]=(z,k):=by simp[hzk]
   refine zf<|zb<|zi<|ae<|aa U<|z8 (bB k Z6 Za U U U (by rw[qx hk2,hzk])) ?_
   refine ac Yj Za U U<|zu (cs:=[.int .i64 0]) Xe U U<|fun i15=>zu (cs:=[.int .i64 0,.int .i64 0,.n,.int .i64 0]) Zr U U<|fun i16=>zj j9 U U U U U U .t1 U<|zd (y8 (t:=15) U .t1)<|zj Za U U U U U U .head U<|zd (y8 (t:=16) U .head)<|z2<|ae<|ak jd U jh U U<|aI jx U<|z8 (Gv.func U U)<|ze (nj z.args (by omega) (fun v hv=>vC f hE hn i k v (hI.args v hv) x y)) U<|z2<|zw U (fun cq=>?_) (fun cq=>?_)
   ·have hq:Fm f i (z,k)=false:=by
     unfold Fm
     rw[Bool.eq_false_iff];intro h
     obtain ⟨v,hv1,hv2⟩:=List.any_eq_true.1 (show (z.args.any fun v=>!eC f (aD f v) i k)=true by simpa using cq)
     have:=List.all_eq_true.1 h v hv1
     rw[this] at hv2;cases hv2
    refine ae<|ad U<|z2<|zg<|zm (x:=.bool _) U ?_
    rw[tF,hjall,show b.insts.zipIdx.all (Fm f i)=false from Bool.eq_false_iff.2 (dI hzi (by rw[hze];exact hq))];rfl
   ·have hq:Fm f i (z,k)=true:=by
     unfold Fm
     rw[wi];intro v hv
     have h0:(z.args.any fun v=>!eC f (aD f v) i k)=false:=by simpa using cq
     have:=List.any_eq_false.1 h0 v hv
     simpa using this
    refine zf<|aW<|aC U U<|aa U<|z2 ?_
    exact ⟨k+1,oB,aL,aE,⟨hk2,bS hzi hkall (by rw[hze];exact hq)⟩,by omega⟩
  ·have hkn:k=b.insts.length:=by simp at ck;omega
   rw[hkn,show b.insts.length=b.insts.zipIdx.length by simp,w4] at hkall
   refine y4<|zb<|zr (fun j=>false) (by kernel_rfl) U (zo (.rest _))<|ai 0 U (db jr U Zp U U)<|ai 1 U (db jj U Y4 U U)<|ai 2 U (dQ Yi U)<|ai 3 U (Gv.eqlI U U)<|ai 4 U (zX U)<|bT.case (s:=76) U (fun c0=>?_) (fun c0=>?_)
   ·have d0:b.term.kind=0:=by simpa using c0
    refine fv 5 U U U c0<|fv 6 U U U c0<|fv 7 U U U c0<|fv 8 U U U c0<|fv 9 U U U c0<|fv 10 U U U c0<|fv 11 U U U c0<|fv 12 U U U c0<|fv 13 U U U c0<|fv 14 U U U c0<|fv 15 U U U c0<|fv 16 U U U c0<|ai 17 U (Ep U c0 U)<|ai 18 U (qO U)<|bI<|zg<|zm (x:=.bool _) U ?_
    rw[tF,hjall,hkall,KH,d0];rfl
   ·have d0:¬b.term.kind=0:=by simpa using c0
    obtain ⟨hv0,hvg⟩:=nk (fI hTm d0)
    refine ie 5 U U U c0 (qe (c:=.pf _) isAgg143 U)<|ie 6 U U U c0 (gd Xa U)<|ie 7 U U U c0 (db jr U Zp U U)<|ie 8 U U U c0 (db jj U j9 U U)<|ie 9 U U U c0 (dQ jg U)<|ie 10 U U U c0 (bB b.term.var.toNat Zl Y9 U U (by omega) hvg)<|ie 11 U U U c0 (yp isAgg114 Y9 U U)<|ie 12 U U U c0 (dQ jg U)<|ie 13 U U U c0 (db jr U Zw U U)<|ie 14 U U U c0 (gd Y3 U)<|ie 15 U U U c0 (Gv.lenM Z6 U)<|aN 16 U<|z7 U U c0<|ze (kT f hE hn (aD f b.term.var) i b.insts.length x y) U<|z2<|ai 17 U (Eg U c0 U)<|ai 18 U (qO U)<|bI<|zg<|zm (x:=.bool _) U ?_
    rw[tF,hjall,hkall,KH,wg d0];rfl
theorem jA (f:ab) (hf:small f) (hL:bx E):aP prog E 66 [.agg (bw f)] (.int .i64 (if (bf f&&cT f)=true then 0 else 3)):=by
 have hn:=hf.2.2.1
 refine zp func66 U (by decide) U<|ae<|y6 (cs:=_) U U U<|am U<|z2<|zb<|ae<|ac Z0 ji U U<|ze (vy f hf hL) U<|aO U U<|aq U<|zt (s:=10) U (fun c1=>?_) (fun c1=>?_)
 ·have d1:(bf f&&dy f)=false:=by
   cases h:(bf f&&dy f) with
   |false=>rfl
   |true=>rw[h] at c1;simp at c1
  refine z6 U U c1<|z6 U U c1<|z6 U U c1<|au U c1 U<|aq U<|z6 U U U<|z6 U U U<|z6 U U U<|au U U U<|z2<|yr U U<|ae<|am U<|z2<|zg<|zm (x:=.int _ _) U ?_
  rw[show (bf f&&cT f)=false by unfold cT;cases h:bf f<;>simp_all];rfl
 ·have d1:(bf f&&dy f)=true:=by
   cases h:(bf f&&dy f) with
   |true=>rfl
   |false=>rw[h] at c1;simp at c1
  have ht:bf f=true:=by simp at d1;exact d1.1
  have hj:dy f=true:=by simp at d1;exact d1.2
  have hE:=dM ht
  have hS:=dN ht
  refine z7 U U c1<|ac Z0 ji U U<|z7 U U c1<|ze (xE f hf hL ht) U<|z7 U U c1<|ze (rS (gG (ah f) f.blocks.length) false (by rw[rK];omega)) U<|aw U c1 U<|aq U<|zt (s:=15) U (fun c2=>?_) (fun c2=>?_)
  ·refine z6 U U c2<|z6 U U c2<|z6 U U c2<|au U c2 U<|z2<|yr U U<|ae<|am U<|z2<|zg<|zm (x:=.int _ _) U ?_
   rw[show cT f=false by unfold cT;simp_all];simp
  ·refine z7 U U c2<|ac Z0 ji U U<|z7 U U c2<|ze (Dv f hf hS) U<|z7 U U c2<|aJ U<|aw U c2 U<|z2<|zw U (fun c3=>?_) (fun c3=>?_)
   ·refine ae<|am U<|z2<|zg<|zm (x:=.int _ _) U ?_
    rw[show cT f=false by unfold cT;simp_all];simp
   ·refine zf<|ae<|ac Z0 ji U U<|ze (xN f hf hL ht) U<|z8 (uY U)<|z8 (Gv.extract (v:=.pf _) U U)<|z8 (nC U U)<|z8 (q8 (v:=.pf _) U)<|am U<|z2<|zb<|ae<|aa U<|aO U U<|z2<|yq U U<|zf<|ae<|ac Z0 ji U U<|ze (lZ f hf hL ht) U<|z8 (oA U)<|z2<|zb<|ae<|ak je U Zd U U<|aI Zf U<|aj ju U<|aa U<|z2<|zi<|y5 (γ:=Nat) [1,3,5,32] (fun k=>[(33,.i k)]) (fun k=>[]) (fun k=>k≤f.blocks.length∧(List.range k).all (Lg f)=true) (fun k=>f.blocks.length - k) 0 aL aE (⟨w2 _,U⟩) ?_
    rintro k ⟨hk,hall⟩
    refine ae<|ap U U<|z2<|zb<|zn U (fun ck=>?_) (fun ck=>?_)
    ·have hk2:k<f.blocks.length:=by simp at ck;omega
     refine zf<|zb<|zi<|ae<|aa U<|am U<|z2<|ae<|ac Z0 ji U U<|z8 (tv U)<|bd U<|aa U<|ze (xO f hE hf hS k hk2 (pM eI (Ce f)) .any) U<|aJ U<|z2<|zw U (fun cq=>?_) (fun cq=>?_)
     ·refine ae<|am U<|z2<|zg<|zm (x:=.int _ _) U ?_
      rw[show cT f=false by unfold cT;rw[show AK f=false from dL hk2 (by simpa using cq)];simp];simp
     ·refine zf<|aW<|aC U U<|aa U<|z2 ?_
      exact ⟨k+1,fC,aL,aE,⟨hk2,cL hall (by simpa using cq)⟩,by omega⟩
    ·have hkn:k=f.blocks.length:=by simp at ck;omega
     subst hkn
     refine y4<|ae<|am U<|z2<|zg<|zm (x:=.int _ _) U ?_
     rw[ht,show cT f=true by unfold cT;rw[show AK f=true from hall];simp_all];rfl
def oO (f:ab):Bool:=f.blocks.all fun b=>!(b.insts.any fun x=>decide (x.op=25)||decide (x.op=26))
end
section
open Go.Proofs.Tryz
structure FrS (E:Int→List Int) (a shut:Int) (n:Nat) (out:List Bool):Prop where
 len:out.length=n
 sound:∀b:Nat,out[b]?=some true→iW E a shut b
def AR (a:Int) (out:List Bool) (shut x:Int):Prop:=x≠shut∧(x=a∨gb out x=true)
instance (a:Int) (out:List Bool) (shut x:Int):Decidable (AR a out shut x):=by unfold AR;infer_instance
def Dw (E:Int→List Int) (a shut:Int) (out:List Bool) (k:Nat):Prop:=∀x:Nat,x<k→AR a out shut x→∀y:Nat,(y:Int)∈E x→(y:Int)≠shut→gb out y=true
def Lj (E:Int→List Int) (a shut:Int) (out:List Bool) (x j:Nat):Prop:=AR a out shut x→∀y:Nat,y<j→(y:Int)∈E x→(y:Int)≠shut→gb out y=true
def nl (out:List Bool):Nat:=(out.filter fun b=>!b).length
theorem nm (out:List Bool) (k:Nat):gb out (k:Int)=(out[k]?).getD false:=rfl
theorem jQ {out:List Bool} {k:Nat} (h:k<out.length):out[k]?=some (gb out k):=by
 rw[nm,qx h];rfl
theorem FrS.begin (E:Int→List Int) (a shut:Int) (n:Nat):FrS E a shut n (List.replicate n false):=⟨by simp,fun b h=>by
 rw[List.getElem?_replicate] at h;split at h<;>simp at h⟩
theorem FrS.set {E:Int→List Int} {a shut:Int} {n:Nat} {out:List Bool} (h:FrS E a shut n out) {x y:Nat} (hx:AR a out shut x) (ha:a≠shut∨(x:Int)≠a) (he:(y:Int)∈E x) (hy:(y:Int)≠shut):FrS E a shut n (out.set y true):=by
 refine ⟨by rw[List.length_set];exact h.len,fun b hb=>?_⟩
 by_cases e:b=y
 ·subst e
  refine iW.step (x:=x) ?_ he hy
  rcases hx.2 with e|hg
  ·left
   refine ⟨e,?_⟩
   rw[←e];exact hx.1
  ·right
   by_cases hlt:x<out.length
   ·exact h.sound x (by rw[jQ hlt,hg])
   ·rw[nm,List.getElem?_eq_none (by omega)] at hg;simp at hg
 ·rw[List.getElem?_set_ne (fun e2=>e e2.symm)] at hb;exact h.sound b hb
theorem AU {out:List Bool} {y:Nat} (hy:y<out.length) (h:gb out y=false):nl (out.set y true)+1=nl out:=kO out y (by rw[jQ hy,h])
structure Lk (E:Int→List Int) (a shut:Int) (n:Nat) (o0 out:List Bool) (again:Bool):Prop extends FrS E a shut n out where
 less:nl out≤nl o0
 more:again=true→nl out<nl o0
 same:again=false→out=o0
theorem Lk.hit {E:Int→List Int} {a shut:Int} {n:Nat} {o0 out:List Bool} {again:Bool} (h:Lk E a shut n o0 out again) {x y:Nat} (hx:AR a out shut x) (he:(y:Int)∈E x) (hy:(y:Int)≠shut) (hlt:y<n) (hf:gb out y=false):Lk E a shut n o0 (out.set y true) true:=by
 have h1:=AU (out:=out) (y:=y) (by rw[h.len];exact hlt) hf
 have h2:=h.less
 exact { h.toFrS.set hx (by
      by_cases e:(x:Int)=a
      ·left;rw[←e];exact hx.1
      ·exact .inr e) he hy with
     less:=by omega
     more:=fun _=>by omega
     same:=fun e=>by cases e }
theorem FrS.all {E:Int→List Int} {a shut:Int} {n:Nat} {out:List Bool} (hE:fP E n) (ha:a=a∧0≤a∧a<n) (h:FrS E a shut n out) (hc:Dw E a shut out n) (b:Nat) (hb:b<n):gb out b=true↔iW E a shut b:=by
 constructor
 ·intro hg;exact h.sound b (by rw[jQ (by rw[h.len];exact hb),hg])
 ·intro hf
  have:=iW.closed (out:=fun x:Int=>0≤x∧x<n∧gb out x=true) (fun x y h1 h2 h3 h4=>by
   have hxr:0≤x∧x<n:=by
    rcases h2 with e|h2
    ·rw[e];exact ha.2
    ·exact ⟨h2.1,h2.2.1⟩
   have hy:=hE.rng x hxr.1 hxr.2 y h3
   have e1:((x.toNat:Nat):Int)=x:=wj hxr.1
   have e2:((y.toNat:Nat):Int)=y:=wj hy.1
   refine ⟨hy.1,hy.2,?_⟩
   have:=hc x.toNat (by omega) ⟨by rw[e1];exact h1,by
    rw[e1]
    rcases h2 with e|h2
    ·exact .inl e
    ·exact .inr h2.2.2⟩ y.toNat (by rw[e1,e2];exact h3) (by rw[e2];exact h4)
   rwa [e2] at this) hf
  exact this.2.2
open Classical in
noncomputable def l3 (E:Int→List Int) (n:Nat) (a shut:Int):List Bool:=(aY n).map fun b=>decide (iW E a shut b)
open Classical in
theorem FrS.eq {E:Int→List Int} {a shut:Int} {n:Nat} {out:List Bool} (hE:fP E n) (ha:0≤a∧a<n) (h:FrS E a shut n out) (hc:Dw E a shut out n):out=l3 E n a shut:=by
 refine List.ext_getElem (by rw[h.len];unfold l3;rw[w6,bR]) fun k h1 h2=>?_
 have hk:k<n:=by rw[h.len] at h1;exact h1
 have:=h.all hE ⟨rfl,ha⟩ hc k hk
 have e1:out[k]=gb out k:=by have:=jQ h1;rw[qx h1] at this;simpa using this
 have e2:(l3 E n a shut)[k]=decide (iW E a shut k):=by
  have h3:(l3 E n a shut)[k]?=some (decide (iW E a shut k)):=by unfold l3;rw[w7,m4 hk];rfl
  rw[qx h2] at h3
  simpa using h3
 rw[e1,e2]
 by_cases hf:iW E a shut k
 ·rw[we hf];exact this.2 hf
 ·rw[wg hf];exact Bool.eq_false_iff.2 fun e=>hf (this.1 e)
open Classical in
noncomputable def eY (E:Int→List Int) (n:Nat) (shut:Int):List Bool:=(aY n).map fun b=>decide (jZ E (fun x=>x≠shut) 0 b)
open Classical in
theorem Dx {E:Int→List Int} {n k:Nat} {a shut:Int} (hk:k<n):(l3 E n a shut)[k]?=some (decide (iW E a shut k)):=by unfold l3;rw[w7,m4 hk];rfl
open Classical in
theorem kU {E:Int→List Int} {n k:Nat} {shut:Int} (hk:k<n):(eY E n shut)[k]?=some (decide (jZ E (fun x=>x≠shut) 0 k)):=by unfold eY;rw[w7,m4 hk];rfl
theorem mA (E:Int→List Int) (n:Nat) (a shut:Int):(l3 E n a shut).length=n:=by unfold l3;rw[w6,bR]
theorem np (E:Int→List Int) (n:Nat) (shut:Int):(eY E n shut).length=n:=by unfold eY;rw[w6,bR]
open Classical in
theorem Dy {E:Int→List Int} {n:Nat} (shut:Int):(l3 E n 0 shut).set 0 (decide (shut≠0))=eY E n shut:=by
 refine List.ext_getElem? fun k=>?_
 by_cases hk:k<n
 ·rw[kU hk]
  have hiff:=E1 (E:=E) (shut:=shut) (b:=(k:Int))
  by_cases e:k=0
  ·subst e
   rw[List.getElem?_set_self (by rw[mA];exact hk)]
   refine congrArg some (Bool.eq_iff_iff.2 ?_)
   rw[decide_eq_true_iff,decide_eq_true_iff,←hiff]
   constructor
   ·intro h;exact .inl ⟨rfl,h⟩
   ·rintro (⟨_,h⟩|⟨h,_⟩)
    ·exact h
    ·exact absurd rfl h
  ·rw[List.getElem?_set_ne (fun e2=>e e2.symm),Dx hk]
   refine congrArg some (Bool.eq_iff_iff.2 ?_)
   rw[decide_eq_true_iff,decide_eq_true_iff,←hiff]
   constructor
   ·intro h;exact .inr ⟨by omega,h⟩
   ·rintro (⟨h,_⟩|⟨_,h⟩)
    ·omega
    ·exact h
 ·rw[List.getElem?_eq_none (by rw[List.length_set,mA];omega),List.getElem?_eq_none (by rw[np];omega)]
end
end Go.Proofs.YtbbonnfjealmpaaGreatDoor
