/- The rounds of ranges stop soon. Plain law. No conditions but int64s. -/
import Derived.Test.YtdilpodccjlkgaaGreatDoorZl
import Derived.Test.YtdilpodccjlkgaaGreatDoorZe
import Derived.Test.YtdilpodccjlkgaaGreatDoorZj
import Derived.Test.YtdilpodccjlkgaaGreatDoorZf
set_option linter.unusedVariables false
set_option linter.unusedSimpArgs false
set_option linter.unusedSectionVars false
namespace Go.Proofs.YtdilpodccjlkgaaGreatDoor
open Go.Proofs.Tryz
open Go.Proofs Go.Lib Go.Shelf Go.RowKit
theorem C5:dB prog 77 #[(0,1),(1,1)] [.int .i64 0,.int .i64 0]:=⟨_,_,Zp,zeroValue77,fun w=>by kernel_rfl,rfl⟩
theorem nk:da prog 69 77 1 2 [.int .i64 0,.int .i64 0]:=⟨_,Zw,Yt,zeroValue77,by decide,by decide,by kernel_rfl⟩
variable {E:World}
set_option maxRecDepth 20000
theorem bR.dstPhi {f:ac} (h:bR f) {b:aX} (hb:b∈f.blocks) {p:dG} (hp:p∈b.phis):0≤p.dst∧p.dst<f.vars.length:=by
 have:=((h.2.2.2.2.2 b hb).1 p hp).1
 simpa [bc] using this
theorem bR.dstInst {f:ac} (h:bR f) {b:aX} (hb:b∈f.blocks) {x:aF} (hx:x∈b.insts) (h0:0≤x.dst):x.dst<f.vars.length:=by
 rcases (gN ((h.2.2.2.2.2 b hb).2.1 x hx)).dst with ⟨_,d⟩|⟨_,_,d⟩
 ·omega
 ·have:0≤x.dst∧x.dst<f.vars.length:=by simpa [bc] using d
  exact this.2
theorem small.evs {f:ac} (hf:small f) {k:Nat} (hk:k≤f.blocks.length):(dC f k).length≤2000000:=by
 have h1:=u7 (m:=2000) (fun b hb=>by have:=hf.2.2.2.2 b hb;have h2:=this.2.1;have h3:=this.2.2.1;omega) k hk
 have:=hf.2.2.1
 omega
set_option maxHeartbeats 4000000 in
theorem nU (f:ac) (hf:small f) (hS:bR f):aY prog E 63 [.agg (bE f)] []
  fun x O=>∃b:Nat,x=eh b f.vars.length∧O=[(0,dv eP 69 77 b (pU f))]:=by
 have hv:=hf.1
 have hn:=hf.2.2.1
 refine zp func63 Z (by decide) Z<|ai<|ya (cs:=_) Z Z Z<|za (jI Z)<|z6<|ai<|au jg Z Yc Z Z<|aI Yn Z<|aq Z9 Z<|yb (m:=f.vars.length) Ya type69 Z Z Z Z Z (by simp) (by simp) (by show (24:Int)*_≤_;omega) (by omega) eP 77<|fun b13=>za (qi (v:=eh _ _) Z)<|z6<|zd<|ai<|au jg Z Z8 Z Z<|aI Zg Z<|aq ju Z<|aa Z<|z6<|zm<|y8 (γ:=Nat) [3,15,16] (fun k=>[(17,.int .i64 k)]) (fun k=>[(0,dv eP 69 77 b13 (cA f.vars.length (dC f k)))]) (fun k=>k≤f.blocks.length) (fun k=>f.blocks.length - k) 0 aK ⟨_,(.refl _),by rw[pR];rfl⟩ (qw _) ?_
 rintro k hk
 refine ai<|ay Z Z<|z6<|zd<|zt Z (fun ck=>?_) (fun ck=>?_)
 ·have hk2:k<f.blocks.length:=by simp at ck;omega
  obtain ⟨b,hbk⟩:∃b,f.blocks[k]=b:=⟨_,rfl⟩
  have hget:f.blocks[k]?=some b:=by rw[qt hk2,hbk]
  have hmem:b∈f.blocks:=hbk▸qx hk2
  obtain ⟨hb0,hb1,hb2,hb3,hb4⟩:=hf.2.2.2.2 b hmem
  have hevl:=hf.evs hk
  refine zi<|zd<|zm<|ai<|aa Z<|za (bv k ju jx Z Z Z hget)<|ae Yo jx Z Z<|y7 (cs:=[.str ⟨#[]⟩,.raw (.slice none 0 0),.raw (.slice none 0 0),.int .i64 0,.int .i64 0,.int .i64 0,.int .i64 0]) Zl Z Z<|fun i5=>ao Z<|y1 jx Z Z Z Z Z Z .head Z<|ze (yd (t:=5) Z .head)<|z6<|zd<|ai<|au ji Z Yl Z Z<|aI Yv Z<|aq Z3 Z<|aa Z<|z6<|zm<|y8 (γ:=Nat) [3,4,5,15,16,17,23,24] (fun j=>[(25,.int .i64 j)]) (fun j=>[(0,dv eP 69 77 b13 (cA f.vars.length (dC f k++dH k (b.phis.take j))))]) (fun j=>j≤b.phis.length) (fun j=>b.phis.length - j) 0 aK ⟨_,(.refl _),by rw[show dH k (b.phis.take 0)=[] from rfl,w6]⟩ (qw _) ?_
  rintro j hj
  refine ai<|ay Z Z<|z6<|zd<|zt Z (fun cj=>?_) (fun cj=>?_)
  ·have hj2:j<b.phis.length:=by simp at cj;omega
   obtain ⟨p,hp⟩:∃p,b.phis[j]=p:=⟨_,rfl⟩
   obtain ⟨hd0,hdn⟩:=hS.dstPhi hmem (hp▸qx hj2)
   obtain ⟨rows,hrows⟩:∃rows,cA f.vars.length (dC f k++dH k (b.phis.take j))=rows:=⟨_,rfl⟩
   have hdl:p.dst.toNat<(cA f.vars.length (dC f k++dH k (b.phis.take j))).length:=by rw[cN];omega
   have hrl:=jR hdl
   have hsucc:=kQ (x:=((k:Int),(-1:Int))) hd0 hdl
   have hrn:=cN f.vars.length (dC f k++dH k (b.phis.take j))
   have hel:(dC f k++dH k (b.phis.take j)).length≤2001000:=by rw[qz,dH,w1,w7];omega
   rw[qv,show dH k (b.phis.take j)++[(p.dst,((k:Int),(-1:Int)))]=dH k (b.phis.take (j+1)) by rw[lu k hj2,hp]] at hsucc
   simp only[hrows] at hdl hrl hsucc hrn
   rw[hrows]
   refine zi<|zd<|zm<|ai<|za (bv j Z3 Zb Z Z Z (by rw[qt hj2,hp])) ?_
   refine ae X1 Zb Z Z<|y7 (cs:=[.int .i64 0,.raw (.slice none 0 0),.raw (.slice none 0 0)]) Yg Z Z<|fun i7=>y1 Zb Z Z Z Z Z Z .head Z<|ze (yd (t:=7) Z .head)<|z6<|ye (γ:=Unit) [3,4,5,15,16,17,23,24,25] (fun u=>[]) (fun u=>[(0,dv eP 69 77 b13 (rows.set p.dst.toNat (rows[p.dst.toNat]++[((k:Int),-1)])))]) (fun u=>True) ?_ (fun _ _ h=>h) ?_
   ·refine zr (fun j=>Nat.beq j 13) (by kernel_rfl) Z (zj (.rest _))<|ad 0 Z (yv (v:=eh _ _) Z)<|ad 1 Z (bK jz Z wz Z Z)<|ad 2 Z (cQ j6 Z)<|ad 3 Z (yv (v:=eh _ _) Z)<|ad 4 Z (bK jz Z wz Z Z)<|ad 5 Z (cQ j6 Z)<|ad 6 Z (qp (j:=p.dst.toNat) Ya Yu Z Z (by omega) (by omega))<|ad 8 Z (cD Z)<|ad 9 Z (y3 (cps:=[(0,[_]),(1,[_])]) (rs:=[_,_]) C5 Z Z Z)<|yr (i:=7) (j:=10) Z Z (by kernel_rfl) ?_ ?_
    ·refine qc (j:=p.dst.toNat) (r:=rows[p.dst.toNat]) Xe Z (qt hdl) (fun _=>.head)<|fun i36=>z6<|aQ 10 Z<|y4 (rows:=[[_,_]]) nk Z Z Z Z Z<|z6<|aQ 11 Z<|yu (k:=2) Zw type77 Z Z Z Z Z (fun _=>.head) (by rw[eP.av_len];rfl) (by decide) Z (by show (_+1)*16≤_;omega) (by show _+1≤_;omega)<|fun i40=>z6<|ad 12 Z (qp (j:=p.dst.toNat) Ya Yu Z Z (by omega) (by omega))<|yf<|yh (i:=13) Z (by kernel_rfl) (by kernel_rfl)<|qq (j:=p.dst.toNat) (r:=rows[p.dst.toNat]++[((k:Int),-1)]) Yu Z Z (by omega) .head .head Z (eP.av_push rows[p.dst.toNat] ((k:Int),(-1:Int))) (by simp)<|z6<|ym (by kernel_rfl) ?_
     exact ⟨(),sY,trivial,aH,trivial⟩
    ·refine y4 (rows:=[[_,_]]) nk Z Z Z Z Z<|z6<|aQ 7 Z<|qc (j:=p.dst.toNat) (r:=rows[p.dst.toNat]) Xe Z (qt hdl) (fun _=>.head)<|fun i36=>z6<|aQ 11 Z<|yu (k:=2) Zw type77 Z Z Z Z Z (fun _=>.head) (by rw[eP.av_len];rfl) (by decide) Z (by show (_+1)*16≤_;omega) (by show _+1≤_;omega)<|fun i40=>z6<|ad 12 Z (qp (j:=p.dst.toNat) Ya Yu Z Z (by omega) (by omega))<|yf<|yh (i:=13) Z (by kernel_rfl) (by kernel_rfl)<|qq (j:=p.dst.toNat) (r:=rows[p.dst.toNat]++[((k:Int),-1)]) Yu Z Z (by omega) .head .head Z (eP.av_push rows[p.dst.toNat] ((k:Int),(-1:Int))) (by simp)<|z6<|ym (by kernel_rfl) ?_
     exact ⟨(),sY,trivial,aH,trivial⟩
   ·rintro _ _
    refine aW<|aE Z Z<|aa Z<|z6 ?_
    exact ⟨j+1,wH,aK,⟨_,(.refl _),by rw[hsucc]⟩,hj2,by omega⟩
  ·have hjn:j=b.phis.length:=by simp at cj;omega
   subst hjn
   rw[qy]
   refine y6<|ai<|au ji Z Zt Z Z<|aI Y9 Z<|aq Z0 Z<|aa Z<|z6<|zm<|y8 (γ:=Nat) [3,4,15,16,17,44,45] (fun j=>[(46,.int .i64 j)]) (fun j=>[(0,dv eP 69 77 b13 (cA f.vars.length (dC f k++dH k b.phis++gq k (b.insts.take j))))]) (fun j=>j≤b.insts.length) (fun j=>b.insts.length - j) 0 aK ⟨_,(.refl _),by rw[show gq k (b.insts.take 0)=[] from rfl,w6]⟩ (qw _) ?_
   rintro j hj
   refine ai<|ay Z Z<|z6<|zd<|zt Z (fun cj=>?_) (fun cj=>?_)
   ·have hj2:j<b.insts.length:=by simp at cj;omega
    obtain ⟨p,hp⟩:∃p,b.insts[j]=p:=⟨_,rfl⟩
    have hev:=iT k hj2
    rw[hp] at hev
    refine zi<|zd<|zm<|ai<|aa Z<|za (bv j Z0 jy Z Z Z (by rw[qt hj2,hp])) ?_
    refine ae Zz jy Z Z<|y7 (cs:=[.int .i64 0,.int .i64 0,.raw (.slice none 0 0),.int .i64 0]) Zh Z Z<|fun i9=>ao Z<|y1 jy Z Z Z Z Z Z .head Z<|ze (yd (t:=9) Z .head)<|z6<|ai<|au j5 Z wz Z Z<|aA j6 Z<|za (q5 Z Z)<|z6<|zy Z (fun cd=>?_) (fun cd=>?_)
    ·have hd0:0≤p.dst:=by simpa using cd
     have hdn:=hS.dstInst hmem (hp▸qx hj2) hd0
     rw[if_pos hd0] at hev
     obtain ⟨rows,hrows⟩:∃rows,cA f.vars.length (dC f k++dH k b.phis++gq k (b.insts.take j))=rows:=⟨_,rfl⟩
     have hdl:p.dst.toNat<(cA f.vars.length (dC f k++dH k b.phis++gq k (b.insts.take j))).length:=by rw[cN];omega
     have hrl:=jR hdl
     have hsucc:=kQ (x:=((k:Int),(j:Int))) hd0 hdl
     have hrn:=cN f.vars.length (dC f k++dH k b.phis++gq k (b.insts.take j))
     have hel:(dC f k++dH k b.phis++gq k (b.insts.take j)).length≤2002000:=by
      have:=pT k (b.insts.take j)
      rw[w7] at this
      rw[qz,qz,dH,w1];omega
     rw[qv (dC f k++dH k b.phis) (gq k (b.insts.take j)) [(p.dst,((k:Int),(j:Int)))],←hev] at hsucc
     simp only[hrows] at hdl hrl hsucc hrn
     rw[hrows]
     refine ye (γ:=Unit) [3,4,15,16,17,44,45,46] (fun u=>[]) (fun u=>[(0,dv eP 69 77 b13 (rows.set p.dst.toNat (rows[p.dst.toNat]++[((k:Int),(j:Int))])))]) (fun u=>True) ?_ (fun _ _ h=>h) ?_
     ·refine zr (fun j=>Nat.beq j 14) (by kernel_rfl) Z (zj (.rest _))<|ad 0 Z (yv (v:=eh _ _) Z)<|ad 1 Z (bK j5 Z wz Z Z)<|ad 2 Z (cQ j6 Z)<|ad 3 Z (yv (v:=eh _ _) Z)<|ad 4 Z (bK j5 Z wz Z Z)<|ad 5 Z (cQ j6 Z)<|ad 6 Z (qp (j:=p.dst.toNat) Ya Yu Z Z (by omega) (by omega))<|ad 8 Z (cD Z)<|ad 9 Z (cD Z)<|ad 10 Z (y3 (cps:=[(0,[_]),(1,[_])]) (rs:=[_,_]) C5 Z Z Z)<|yr (i:=7) (j:=11) Z Z (by kernel_rfl) ?_ ?_
      ·refine qc (j:=p.dst.toNat) (r:=rows[p.dst.toNat]) Xe Z (qt hdl) (fun _=>.head)<|fun i61=>z6<|aQ 11 Z<|y4 (rows:=[[_,_]]) nk Z Z Z Z Z<|z6<|aQ 12 Z<|yu (k:=2) Zw type77 Z Z Z Z Z (fun _=>.head) (by rw[eP.av_len];rfl) (by decide) Z (by show (_+1)*16≤_;omega) (by show _+1≤_;omega)<|fun i66=>z6<|ad 13 Z (qp (j:=p.dst.toNat) Ya Yu Z Z (by omega) (by omega))<|yf<|yh (i:=14) Z (by kernel_rfl) (by kernel_rfl)<|qq (j:=p.dst.toNat) (r:=rows[p.dst.toNat]++[((k:Int),(j:Int))]) Yu Z Z (by omega) .head .head Z (eP.av_push rows[p.dst.toNat] ((k:Int),(j:Int))) (by simp)<|z6<|ym (by kernel_rfl) ?_
       exact ⟨(),wH,trivial,aH,trivial⟩
      ·refine y4 (rows:=[[_,_]]) nk Z Z Z Z Z<|z6<|aQ 7 Z<|qc (j:=p.dst.toNat) (r:=rows[p.dst.toNat]) Xe Z (qt hdl) (fun _=>.head)<|fun i61=>z6<|aQ 12 Z<|yu (k:=2) Zw type77 Z Z Z Z Z (fun _=>.head) (by rw[eP.av_len];rfl) (by decide) Z (by show (_+1)*16≤_;omega) (by show _+1≤_;omega)<|fun i66=>z6<|ad 13 Z (qp (j:=p.dst.toNat) Ya Yu Z Z (by omega) (by omega))<|yf<|yh (i:=14) Z (by kernel_rfl) (by kernel_rfl)<|qq (j:=p.dst.toNat) (r:=rows[p.dst.toNat]++[((k:Int),(j:Int))]) Yu Z Z (by omega) .head .head Z (eP.av_push rows[p.dst.toNat] ((k:Int),(j:Int))) (by simp)<|z6<|ym (by kernel_rfl) ?_
       exact ⟨(),wH,trivial,aH,trivial⟩
     ·rintro _ _
      refine aW<|aE Z Z<|aa Z<|z6 ?_
      exact ⟨j+1,lf,aK,⟨_,(.refl _),by rw[hsucc]⟩,hj2,by omega⟩
    ·have hd0:¬0≤p.dst:=by simpa using cd
     rw[if_neg hd0,w6] at hev
     refine zi<|aW<|aE Z Z<|aa Z<|z6 ?_
     exact ⟨j+1,lf,aK,⟨_,(.refl _),by rw[hev]⟩,hj2,by omega⟩
   ·have hjn:j=b.insts.length:=by simp at cj;omega
    subst hjn
    rw[qy]
    refine y6<|aW<|aE Z Z<|aa Z<|z6 ?_
    exact ⟨k+1,db,aK,⟨_,(.refl _),by rw[gc hk2,hbk,pS,qv]⟩,hk2,by omega⟩
 ·have hkn:k=f.blocks.length:=by simp at ck;omega
  subst hkn
  refine y6<|ai<|za (yv (v:=eh _ _) Z)<|za (qi (v:=eh _ _) Z)<|z6<|zg<|zn (x:=eh _ _) Z ?_
  exact ⟨b13,rfl,rfl⟩
end Go.Proofs.YtdilpodccjlkgaaGreatDoor
namespace Go.Proofs.YtdilpodccjlkgaaGreatDoor
open Go.Proofs.Tryz
open Go.Proofs Go.Lib Go.Shelf Go.RowKit
variable {E:World}
set_option maxRecDepth 20000
theorem et {f:ac} (h:bi f=true):bR f:=by
 unfold bi at h
 rw[wa,hU] at h
 exact wd h.1
theorem Iy (l:List gA):((eP.av l++[AV.int .i64 (-1),AV.int .i64 0]).drop 0).take 2=[AV.int .i64 (l.head?.getD (-1,0)).1,AV.int .i64 (l.head?.getD (-1,0)).2]:=by cases l<;>rfl
theorem tA {f:ac} (hf:small f) {v:Nat} (h:v<f.vars.length):(bu f v).length≤2000000:=by
 have h1:=eT (dC f f.blocks.length) h
 have h2:v<(cA f.vars.length (dC f f.blocks.length)).length:=by rw[cN];exact h
 have h3:=jR h2
 have h4:=hf.evs (Nat.le_refl _)
 rw[qt h2,mG] at h1
 rw[Option.some.inj h1] at h3
 omega
theorem kS (f:ac) (hf:small f) (hL:bz E) (ht:bi f=true):aM prog E 34 [.agg (bE f)] (.fro 2 ((cf f).map eP.row)):=by
 have hv:=hf.1
 refine zp func34 Z (by decide) Z<|ai<|ya (cs:=_) Z Z Z<|za (jI Z)<|z6<|zd<|ai<|ae jv jj Z Z<|zh (pO f hf hL) Z<|aO Z Z<|z6<|yg Z (by rw[ht];rfl)<|zi<|ai<|za (jI Z)<|z6<|zd<|ai<|ae jv jj Z Z<|zu Z (zj (.rest _)) (nU f hf (et ht)) ?_
 rintro r10 O10 ⟨b10,rfl,rfl⟩
 refine za (Gv.lenN Ya Z)<|aa Z<|z6<|gU (t:=3) (k:=2) (T:=77) Z<|fun i3=>zz (aS.nestTail .t1)<|zm<|y8 (γ:=Nat × Nat) [10,11] (fun g=>[(12,.int .i64 g.1),(3,.own g.2 g.1)]) (fun g=>[(g.2,.grow 2 77 (((cf f).take g.1).map eP.row).flatten),(0,yK eP 69 77 b10 (pU f) g.1)]) (fun g=>g.1≤f.vars.length) (fun g=>f.vars.length - g.1) (0,i3) eo aH (qw _) ?_
 rintro ⟨k,i3⟩ hk
 try dsimp only at *
 refine ai<|ay Z Z<|z6<|zd<|zt Z (fun ck=>?_) (fun ck=>?_)
 ·have hk2:k<f.vars.length:=by simp at ck;omega
  have hml:=tA hf hk2
  have hmt:(cf f)[k]?=some (aL f k):=nQ hk2
  have hkm:k<(cf f).length:=by rw[kR];exact hk2
  have hmk:(cf f)[k]=aL f k:=by rw[qt hkm] at hmt;exact Option.some.inj hmt
  refine zi<|zd<|zm<|ai<|za (qp (j:=k) Ya Yu Z Z Z (by omega))<|az.nestShift Xe Z (pV hk2) .t1<|fun i15=>za (eD Z)<|z6<|ai<|za (im Z)<|za (y3 (cps:=[(0,[_]),(1,[_])]) (rs:=[_,_]) C5 Z Z Z)<|y4 (rows:=[[_,_]]) nk Z Z Z Z Z<|yu (k:=2) Zw type77 Z Z Z Z Z (fun _=>.head) (by rw[eP.av_len];rfl) (by decide) Z (by show (_+1)*16≤_;omega) (by show _+1≤_;omega)<|fun i19=>za (eD Z)<|z6<|aW<|za (im Z)<|za (im Z)<|za (Gv.idxO (j:=0) Zw Yt Z Z Z ⟨_,.head⟩ (by simp) (by show 0<_+1;omega))<|za (Gv.loadAG (l:=[_,_]) isAgg77 Yt Z ⟨_,.head⟩ (by simp) (by simp) (Iy _))<|y4 (rows:=[[_,_]]) nk Z Z Z Z Z<|yu (k:=2) Zw type77 Z Z Z Z Z (fun _=>.t1) (by rw[mr (k:=2) (fun _=>rfl),w7,Nat.min_eq_left (by omega)]) (by decide) Z (by show (_+1)*16≤_;omega) (by show _+1≤_;omega)<|fun i25=>za (eD Z)<|z6<|zz (aS.drop .head)<|aW<|aE Z Z<|aa Z<|z6 ?_
  exact ⟨(k+1,i25),eo,eo,⟨_,(.refl _),by rw[←lc (qu hkm),hmk];rfl⟩,hk2,by dsimp only;omega⟩
 ·have hkn:k=f.vars.length:=by simp at ck;omega
  subst hkn
  rw[show (cf f).take f.vars.length=cf f by rw[←kR f,qy]]
  refine y6<|ai<|za (im Z)<|za (eD Z)<|z6<|zg ?_
  repeat (first|refine gO ?_|refine fA ?_)
  refine y9 (aS.know (t:=2) (rows:=(cf f).map eP.row) Z .head (by first|(intro r hr;obtain ⟨x,_,rfl⟩:=List.mem_map.1 hr;rfl)|simp[cX,gC,fe,bH,dh]) (by decide) (by rw[w1,kR]))<|zn (x:=.fro _ _) Z ?_
  rfl
theorem Bl (f:ac) (hf:small f) (hS:bR f):aM prog E 95 [.agg (bE f)] (.bool (lK f)):=by
 have hv:=hf.1
 refine zp func95 Z (by decide) Z<|ai<|ya (cs:=_) Z Z Z<|ab Z<|z6<|zd<|ai<|ae jv jj Z Z<|zu Z (zj (.rest _)) (nU f hf hS) ?_
 rintro r6 O6 ⟨b6,rfl,rfl⟩
 refine za (Gv.lenN Ya Z)<|aa Z<|z6<|zz (aS.nestKnow (s:=6) Z .head (xk f))<|zm<|y8 (γ:=Nat) [1,6,7] (fun k=>[(8,.int .i64 k)]) (fun k=>[]) (fun k=>k≤f.vars.length∧(List.range k).all (iU f)=true) (fun k=>f.vars.length - k) 0 aK aH (⟨qw _,Z⟩) ?_
 rintro k ⟨hk,hall⟩
 refine ai<|ay Z Z<|z6<|zd<|zt Z (fun ck=>?_) (fun ck=>?_)
 ·have hk2:k<f.vars.length:=by simp at ck;omega
  refine zi<|zd<|zm<|ai<|aa Z<|za (bv k Ya Yu Z Z Z (pV hk2))<|aI Xe Z<|ao Z<|za (nI Z)<|z6<|ai<|be Z<|aq Zw Z<|aZ Z Z<|aj Z<|zq (s:=16) Z (fun c1=>?_) (fun c1=>?_)
  ·have d1:1<(bu f k).length:=by have h0:(1:Int)<((bu f k).length:Int):=(by simpa using c1);omega
   refine z7 Z Z c1<|z7 Z Z c1<|z7 Z Z c1<|z7 Z Z c1<|zk Z Z<|zk Z Z<|zk Z Z<|zk Z Z<|zk Z Z<|z7 Z Z c1<|aw Z c1 Z<|z6<|yt Z Z<|ai<|ab Z<|z6<|zg<|zn (x:=.bool _) Z ?_
   rw[show lK f=false from dT hk2 (by unfold iU;simp[d1])]
  ·have d1:¬1<(bu f k).length:=by have h0:¬(1:Int)<((bu f k).length:Int):=(by simpa using c1);omega
   refine z8 Z Z c1<|be Z<|z8 Z Z c1<|aq Zw Z<|z8 Z Z c1<|aZ Z Z<|z8 Z Z c1<|aj Z<|zq (s:=20) Z (fun c2=>?_) (fun c2=>?_)
   ·have d2:bu f k≠[]:=by have h0:0<(bu f k).length:=(by simpa using c2);exact List.ne_nil_of_length_pos h0
    refine z8 Z Z c2<|aa Z<|z8 Z Z c2<|au jg Z j7 Z Z<|z8 Z Z c2<|aI jf Z<|z8 Z Z c2<|aq wy Z<|z8 Z Z c2<|ay Z Z<|z8 Z Z c1<|aw Z c2 Z<|ax Z c1 Z<|z6<|zy Z (fun c3=>?_) (fun c3=>?_)
    ·have d3:k<f.params.length:=by simpa using c3
     refine ai<|ab Z<|z6<|zg<|zn (x:=.bool _) Z ?_
     rw[show lK f=false from dT hk2 (by unfold iU;simp[d2,d3,List.length_pos_iff])]
    ·have d3:¬k<f.params.length:=by simpa using c3
     refine zi<|aW<|aE Z Z<|aa Z<|z6 ?_
     exact ⟨k+1,db,aK,aH,⟨hk2,cM hall (by unfold iU;simp[d1,d3])⟩,by omega⟩
   ·have d2:bu f k=[]:=by simpa using c2
    refine z7 Z Z c2<|z7 Z Z c2<|z7 Z Z c2<|z7 Z Z c2<|z7 Z Z c2<|z8 Z Z c1<|ax Z c2 Z<|ax Z c1 Z<|z6<|yg Z Z<|zi<|aW<|aE Z Z<|aa Z<|z6 ?_
    exact ⟨k+1,db,aK,aH,⟨hk2,cM hall (by unfold iU;simp[d2])⟩,by omega⟩
 ·have hkn:k=f.vars.length:=by simp at ck;omega
  subst hkn
  refine y6<|ai<|ab Z<|z6<|zg<|zn (x:=.bool _) Z ?_
  rw[show lK f=true from hall]
end Go.Proofs.YtdilpodccjlkgaaGreatDoor
namespace Go.Proofs.YtdilpodccjlkgaaGreatDoor
open Go.Proofs.Tryz
open Go.Proofs Go.Lib Go.Shelf Go.RowKit
variable {E:World}
set_option maxRecDepth 20000
theorem ou {p:Int→Bool} {fn:FuncId} {c:List AV} (xs:List Int) (hl:xs.length≤281474976710656) (hp:∀x∈xs,aM prog E fn ([.int .i64 x]++c) (.bool (p x))) :
  aM prog E 162 [.fro 1 (xs.map cX),.fn fn [] c] (.int .i64 (cE p xs 0)):=by
 refine zp func162 Z (by decide) Z<|ai<|ao Z<|z6<|zd<|ai<|be Z<|aq wy Z<|aa Z<|z6<|zm<|y8 (γ:=Nat) [0,1,7] (fun k=>[(8,.int .i64 k)]) (fun k=>[]) (fun k=>k≤xs.length∧(xs.take k).all (fun x=>!p x)) (fun k=>xs.length - k) 0 aK aH (⟨qw _,Z⟩) ?_
 rintro k ⟨hk,hall⟩
 refine ai<|ay Z Z<|z6<|zd<|zt Z (fun ck=>?_) (fun ck=>?_)
 ·have hk2:k<xs.length:=by simp at ck;omega
  refine zi<|zd<|zm<|ai<|aa Z<|ao Z<|z6<|ai<|za (yv (v:=.fn _ _ _) Z)<|be Z<|aa Z<|za (bv k wy wz Z Z Z (qt hk2))<|aA j6 Z<|az.callVP Z (hp _ (qx hk2)) Z<|z6<|zy Z (fun cp=>?_) (fun cp=>?_)
  ·refine ai<|aa Z<|ao Z<|z6<|zg<|zn (x:=.int _ _) Z ?_
   rw[bF p xs k hk hall,List.drop_eq_getElem_cons hk2,cE,if_pos cp]
  ·refine zi<|aW<|aE Z Z<|aa Z<|z6 ?_
   exact ⟨k+1,db,aK,aH,⟨hk2,by rw[qu hk2,List.all_append,hall];simp[cp]⟩,by omega⟩
 ·have hkn:k=xs.length:=by simp at ck;omega
  refine y6<|ai<|ao Z<|z6<|zg<|zn (x:=.int _ _) Z ?_
  rw[bF p xs k hk hall,hkn,List.drop_length,cE]
theorem l6 {p:Int→Bool} {fn:FuncId} {c:List AV} (xs:List Int) (hl:xs.length≤281474976710656) (hp:∀x∈xs,aM prog E fn ([.int .i64 x]++c) (.bool (p x))) :
  aM prog E 131 [.fro 1 (xs.map cX),.fn fn [] c] (.bool (xs.any p)):=by
 refine zp func131 Z (by decide) Z<|ai<|ab Z<|z6<|ai<|be Z<|za (yv (v:=.fn _ _ _) Z)<|zh (ou xs hl hp) Z<|za (q5 Z Z)<|ab Z<|z6<|zg<|zn (x:=.bool _) Z ?_
 rw[eX]
theorem l7 (f:ac) (hE:bW f) (hn:f.blocks.length≤1000) (m:gA) (b a:Int) (x y:AV):aM prog E 130 [mH f x y,.agg [.int .i64 m.1,.int .i64 m.2],.int .i64 b,.int .i64 a] (.bool (ff f m b a)):=by
 refine zp func130 Z (by decide) Z<|ai<|ya (cs:=_) Z Z Z<|ab Z<|z6<|zd<|zm<|ai<|au Zp Z wz Z Z<|aA j6 Z<|ay Z Z<|ab Z<|z6<|zt Z (fun c0=>?_) (fun c0=>?_)
 ·refine ai<|ab Z<|z6<|zg<|zn (x:=.bool _) Z ?_
  rw[ff,if_pos c0]
 ·refine ai<|au Zp Z wz Z Z<|aA j6 Z<|aa Z<|ak Z Z<|ab Z<|z6<|zy Z (fun c1=>?_) (fun c1=>?_)
  ·have d1:m.1=b:=by simpa using c1
   refine ai<|au Zp Z wz Z Z<|aA j6 Z<|aa Z<|ay Z Z<|ab Z<|z6<|zg<|zn (x:=.bool _) Z ?_
   rw[ff,if_neg c0,if_pos d1]
  ·have d1:¬m.1=b:=by simpa using c1
   refine zi<|ai<|za (fc Z)<|au Zp Z wz Z Z<|aA j6 Z<|aa Z<|zh (Bi f hE hn m.1 b x y) Z<|ab Z<|z6<|zg<|zn (x:=.bool _) Z ?_
   rw[ff,if_neg c0,if_neg d1]
theorem gd {f:ac} {v:Int} (h:bc f v=true):0≤v∧(cf f)[v.toNat]?=some (aL f v):=by
 have h1:0≤v∧v<f.vars.length:=by simpa [bc] using h
 refine ⟨h1.1,?_⟩
 have:=nQ (f:=f) (v:=v.toNat) (by omega)
 rwa [show ((v.toNat:Nat):Int)=v by omega] at this
theorem tB (f:ac) (hE:bW f) (hn:f.blocks.length≤1000) (i k:Nat) (v:Int) (hv:bc f v=true) (x y:AV) :
  aM prog E 132 ([.int .i64 v]++[.pf [mH f x y],.pf [.fro 2 ((cf f).map eP.row)],.pf [.int .i64 i],.pf [.int .i64 k]]) (.bool (!ff f (aL f v) i k)):=by
 obtain ⟨hv0,hvg⟩:=gd hv
 refine zp func132 Z (by decide) Z<|ai<|ab Z<|z6<|zd<|zr (fun j=>false) (by kernel_rfl) Z (zj (.rest _))<|ad 0 Z (yx (c:=.pf _) isAgg68 Z)<|ad 1 Z (e9 Xe Z)<|ad 2 Z (cD Z)<|ad 3 Z (bv v.toNat Zw Yt Z Z (by omega) hvg)<|ad 4 Z (yw isAgg77 Yt Z Z)<|ad 5 Z (cQ j6 Z)<|ad 6 Z (cQ j6 Z)<|aQ 7 Z<|zh (l7 f hE hn (aL f v) i k x y) Z<|z6<|ad 8 Z (Gv.not Z)<|ad 9 Z (ms Z)<|bI<|zg<|zn (x:=.bool _) Z ?_
 rfl
theorem vp (x:aF):aM prog E 57 ([.agg (bH x)]++[]) (.bool (decide (x.op=25)||decide (x.op=26))):=by
 refine zp func57 Z (by decide) Z<|ai<|ya (cs:=_) Z Z Z<|ab Z<|z6<|ai<|au j5 Z Z2 Z Z<|aA Z4 Z<|ak Z Z<|aj Z<|zq (s:=6) Z (fun c1=>?_) (fun c1=>?_)
 ·refine z7 Z Z c1<|z7 Z Z c1<|z7 Z Z c1<|aw Z c1 Z<|ab Z<|z6<|zg<|zn (x:=.bool _) Z ?_
  simp_all
 ·refine z8 Z Z c1<|au j5 Z Z2 Z Z<|z8 Z Z c1<|aA Z4 Z<|z8 Z Z c1<|ak Z Z<|ax Z c1 Z<|ab Z<|z6<|zg<|zn (x:=.bool _) Z ?_
  simp_all
theorem GB (b:aX) (hl:b.insts.length≤1000):aM prog E 56 [.fro 4 (b.insts.map bH),.fn 57 [] []] (.bool (b.insts.any fun x=>decide (x.op=25)||decide (x.op=26))):=gZ b.insts (by omega) (fun x _=>vp x)
set_option maxHeartbeats 4000000 in
theorem vq (f:ac) (hE:bW f) (hf:small f) (hS:bR f) (i:Nat) (hi:i<f.blocks.length) (x y:AV) :
  aM prog E 96 [.agg (bE f),mH f x y,.fro 2 ((cf f).map eP.row),.int .i64 i] (.bool (HG f i)):=by
 have hn:=hf.2.2.1
 obtain ⟨b,hbk⟩:∃b,f.blocks[i]=b:=⟨_,rfl⟩
 have hget:f.blocks[i]?=some b:=by rw[qt hi,hbk]
 have hmem:b∈f.blocks:=hbk▸qx hi
 obtain ⟨hb0,hb1,hb2,hb3,hb4⟩:=hf.2.2.2.2 b hmem
 obtain ⟨hPh,hIn,hTm⟩:=hS.2.2.2.2.2 b hmem
 rw[pW hget]
 refine zp func96 Z (by decide) Z<|ai<|ya (cs:=_) Z Z Z<|ya (cs:=[_]) Z Z Z<|ya (cs:=[_]) Z Z Z<|ya (cs:=[_]) Z Z Z<|ab Z<|z6<|ai<|au jg Z Z8 Z Z<|aI Zg Z<|aA j6 Z<|za (bv i ju jx Z Z Z hget)<|ae Yo jx Z Z<|y7 (cs:=[.str ⟨#[]⟩,.raw (.slice none 0 0),.raw (.slice none 0 0),.int .i64 0,.int .i64 0,.int .i64 0,.int .i64 0]) Zl Z Z<|fun i9=>y1 jx Z Z Z Z Z Z .head Z<|ze (yd (t:=9) Z .head)<|z6<|zd<|ai<|au ji Z Yl Z Z<|aI Yv Z<|aq Z3 Z<|aa Z<|z6<|zm<|y8 (γ:=Nat) [4,5,6,7,9,23,24] (fun j=>[(25,.int .i64 j)]) (fun j=>[]) (fun j=>j≤b.phis.length∧(b.phis.take j).all (Gz f)=true) (fun j=>b.phis.length - j) 0 aK aH (⟨qw _,Z⟩) ?_
 rintro j ⟨hj,hjall⟩
 refine ai<|ay Z Z<|z6<|zd<|zt Z (fun cj=>?_) (fun cj=>?_)
 ·have hj2:j<b.phis.length:=by simp at cj;omega
  obtain ⟨p,hp⟩:∃p,b.phis[j]=p:=⟨_,rfl⟩
  have hpm:p∈b.phis:=hp▸qx hj2
  obtain ⟨hpd,hpl,hpn,hpa,hpf⟩:=hPh p hpm
  have hpb:=hb3 p hpm
  refine zi<|zd<|zm<|ai<|za (bv j Z3 Zb Z Z Z (by rw[qt hj2,hp])) ?_
  refine ae X1 Zb Z Z<|y7 (cs:=[.int .i64 0,.raw (.slice none 0 0),.raw (.slice none 0 0)]) Yg Z Z<|fun i11=>y1 Zb Z Z Z Z Z Z .head Z<|ze (yd (t:=11) Z .head)<|z6<|ai<|au jz Z j7 Z Z<|aI jf Z<|aq wy Z<|aa Z<|z6<|zm<|y8 (γ:=Nat) [4,5,6,7,9,11,23,24,25,30,31] (fun k=>[(32,.int .i64 k)]) (fun k=>[]) (fun k=>k≤p.args.length∧((p.args.zip p.from_).take k).all (fun q=>ff f (aL f q.1) q.2 (fE f q.2))=true) (fun k=>p.args.length - k) 0 aK aH (⟨qw _,Z⟩) ?_
  rintro k ⟨hk,hkall⟩
  refine ai<|ay Z Z<|z6<|zd<|zt Z (fun ck=>?_) (fun ck=>?_)
  ·have hk2:k<p.args.length:=by simp at ck;omega
   have hk3:k<p.from_.length:=by omega
   obtain ⟨v,hv⟩:∃v,p.args[k]=v:=⟨_,rfl⟩
   obtain ⟨c,hc⟩:∃c,p.from_[k]=c:=⟨_,rfl⟩
   obtain ⟨hv0,hvg⟩:=gd (List.all_eq_true.1 hpa v (hv▸qx hk2))
   have hcr:0≤c∧c<f.blocks.length:=by have:=List.all_eq_true.1 hpf c (hc▸qx hk3);simpa [eL] using this
   obtain ⟨d,hd⟩:∃d,f.blocks[c.toNat]'(by omega)=d:=⟨_,rfl⟩
   have hdg:f.blocks[c.toNat]?=some d:=by rw[qt (by omega),hd]
   have hla:fE f c=d.insts.length:=by unfold fE;rw[hdg];rfl
   have hz:k<(p.args.zip p.from_).length:=by rw[List.length_zip];omega
   have hzk:(p.args.zip p.from_)[k]=(v,c):=by rw[List.getElem_zip,hv,hc]
   refine zi<|zd<|zm<|ai<|aa Z<|za (bv k wy wz Z Z Z (by rw[qt hk2,hv])) ?_
   refine aA j6 Z<|ao Z<|ao Z<|z6<|ai<|au jz Z j7 Z Z<|aI jf Z<|aa Z<|za (bv k wy wz Z Z Z (by rw[qt hk3,hc])) ?_
   refine aA j6 Z<|ao Z<|z6<|zd<|zr (fun j=>false) (by kernel_rfl) Z (zj (.rest _))<|ad 0 Z (yx (c:=.pf _) isAgg68 Z)<|ad 1 Z (e9 Xe Z)<|ad 2 Z (cD Z)<|ad 3 Z (bv v.toNat Zw Yt Z Z (by omega) hvg)<|ad 4 Z (yw isAgg77 Yt Z Z)<|ad 5 Z (cD Z)<|ad 6 Z (bK jg Z Z8 Z Z)<|ad 7 Z (e9 Zg Z)<|ad 8 Z (cD Z)<|ad 9 Z (bv c.toNat ju jx Z Z (by omega) hdg)<|ad 10 Z (bK ji Z Zt Z Z)<|ad 11 Z (e9 Y9 Z)<|ad 12 Z (Gv.lenM Z0 Z)<|aQ 13 Z<|zh (l7 f hE hn (aL f v) c d.insts.length x y) Z<|z6<|ad 14 Z (Gv.not Z)<|bI<|zy Z (fun cq=>?_) (fun cq=>?_)
   ·have hq:ff f (aL f v) c (fE f c)=false:=by rw[hla];simpa using cq
    refine ai<|ab Z<|z6<|zg<|zn (x:=.bool _) Z ?_
    rw[rI,show b.phis.all (Gz f)=false from Bool.eq_false_iff.2 (df hj2 (by rw[hp];unfold Gz;exact Bool.eq_false_iff.2 (df hz (by rw[hzk];exact hq))))];rfl
   ·have hq:ff f (aL f v) c (fE f c)=true:=by rw[hla];simpa using cq
    refine zi<|aW<|aE Z Z<|aa Z<|z6 ?_
    exact ⟨k+1,oY,aK,aH,⟨hk2,bJ hz hkall (by rw[hzk];exact hq)⟩,by omega⟩
  ·have hkn:k=p.args.length:=by simp at ck;omega
   have hzl:(p.args.zip p.from_).length=p.args.length:=by rw[List.length_zip];omega
   rw[hkn,←hzl,qy] at hkall
   refine y6<|aW<|aE Z Z<|aa Z<|z6 ?_
   exact ⟨j+1,lf,aK,aH,⟨hj2,bJ hj2 hjall (by rw[hp];exact hkall)⟩,by omega⟩
 ·have hjn:j=b.phis.length:=by simp at cj;omega
  subst hjn
  rw[qy] at hjall
  refine y6<|zd<|ai<|au ji Z Zt Z Z<|aI Y9 Z<|aq Z0 Z<|aa Z<|z6<|zm<|y8 (γ:=Nat) [5,6,7,9,60,61] (fun k=>[(62,.int .i64 k)]) (fun k=>[]) (fun k=>k≤b.insts.length∧((b.insts.zipIdx).take k).all (C1 f i)=true) (fun k=>b.insts.length - k) 0 aK aH (⟨qw _,Z⟩) ?_
  rintro k ⟨hk,hkall⟩
  refine ai<|ay Z Z<|z6<|zd<|zt Z (fun ck=>?_) (fun ck=>?_)
  ·have hk2:k<b.insts.length:=by simp at ck;omega
   obtain ⟨z,hzk⟩:∃z,b.insts[k]=z:=⟨_,rfl⟩
   have hzm:z∈b.insts:=hzk▸qx hk2
   have hI:=gN (hIn z hzm)
   have hzl:=hb4 z hzm
   have hzi:k<b.insts.zipIdx.length:=by simp;exact hk2
   have hze:b.insts.zipIdx[k]=(z,k):=by simp[hzk]
   refine zi<|zd<|zm<|ai<|aa Z<|za (bv k Z0 jy Z Z Z (by rw[qt hk2,hzk])) ?_
   refine ae Zz jy Z Z<|y7 (cs:=[.int .i64 0]) Zv Z Z<|fun i15=>y7 (cs:=[.int .i64 0,.int .i64 0,.raw (.slice none 0 0),.int .i64 0]) Zh Z Z<|fun i16=>y1 wz Z Z Z Z Z Z .t1 Z<|ze (yd (t:=15) Z .t1)<|y1 jy Z Z Z Z Z Z .head Z<|ze (yd (t:=16) Z .head)<|z6<|ai<|au j5 Z j7 Z Z<|aI jf Z<|za (Gv.func Z Z)<|zh (l6 z.args (by omega) (fun v hv=>tB f hE hn i k v (hI.args v hv) x y)) Z<|z6<|zy Z (fun cq=>?_) (fun cq=>?_)
   ·have hq:C1 f i (z,k)=false:=by
     unfold C1
     rw[Bool.eq_false_iff];intro h
     obtain ⟨v,hv1,hv2⟩:=List.any_eq_true.1 (show (z.args.any fun v=>!ff f (aL f v) i k)=true by simpa using cq)
     have:=List.all_eq_true.1 h v hv1
     rw[this] at hv2;cases hv2
    refine ai<|ab Z<|z6<|zg<|zn (x:=.bool _) Z ?_
    rw[rI,hjall,show b.insts.zipIdx.all (C1 f i)=false from Bool.eq_false_iff.2 (df hzi (by rw[hze];exact hq))];rfl
   ·have hq:C1 f i (z,k)=true:=by
     unfold C1
     rw[wb];intro v hv
     have h0:(z.args.any fun v=>!ff f (aL f v) i k)=false:=by simpa using cq
     have:=List.any_eq_false.1 h0 v hv
     simpa using this
    refine zi<|aW<|aE Z Z<|aa Z<|z6 ?_
    exact ⟨k+1,yI,aK,aH,⟨hk2,bJ hzi hkall (by rw[hze];exact hq)⟩,by omega⟩
  ·have hkn:k=b.insts.length:=by simp at ck;omega
   rw[hkn,show b.insts.length=b.insts.zipIdx.length by simp,qy] at hkall
   refine y6<|zd<|zr (fun j=>false) (by kernel_rfl) Z (zj (.rest _))<|ad 0 Z (bK ji Z Zo Z Z)<|ad 1 Z (bK je Z Y0 Z Z)<|ad 2 Z (cQ Ye Z)<|ad 3 Z (Gv.eqlI Z Z)<|ad 4 Z (m5 Z)<|qj (s:=76) Z (fun c0=>?_) (fun c0=>?_)
   ·have d0:b.term.kind=0:=by simpa using c0
    refine bX 5 Z Z Z c0<|bX 6 Z Z Z c0<|bX 7 Z Z Z c0<|bX 8 Z Z Z c0<|bX 9 Z Z Z c0<|bX 10 Z Z Z c0<|bX 11 Z Z Z c0<|bX 12 Z Z Z c0<|bX 13 Z Z Z c0<|bX 14 Z Z Z c0<|bX 15 Z Z Z c0<|bX 16 Z Z Z c0<|ad 17 Z (sX Z c0 Z)<|ad 18 Z (ms Z)<|bI<|zg<|zn (x:=.bool _) Z ?_
    rw[rI,hjall,hkall,Hc,d0];rfl
   ·have d0:¬b.term.kind=0:=by simpa using c0
    obtain ⟨hv0,hvg⟩:=gd (hZ hTm d0)
    refine cG 5 Z Z Z c0 (yx (c:=.pf _) isAgg68 Z)<|cG 6 Z Z Z c0 (e9 Xe Z)<|cG 7 Z Z Z c0 (bK ji Z Zo Z Z)<|cG 8 Z Z Z c0 (bK je Z wz Z Z)<|cG 9 Z Z Z c0 (cQ j6 Z)<|cG 10 Z Z Z c0 (bv b.term.var.toNat Zw Yt Z Z (by omega) hvg)<|cG 11 Z Z Z c0 (yw isAgg77 Yt Z Z)<|cG 12 Z Z Z c0 (cQ j6 Z)<|cG 13 Z Z Z c0 (bK ji Z Zt Z Z)<|cG 14 Z Z Z c0 (e9 Y9 Z)<|cG 15 Z Z Z c0 (Gv.lenM Z0 Z)<|aQ 16 Z<|z8 Z Z c0<|zh (l7 f hE hn (aL f b.term.var) i b.insts.length x y) Z<|z6<|ad 17 Z (rz Z c0 Z)<|ad 18 Z (ms Z)<|bI<|zg<|zn (x:=.bool _) Z ?_
    rw[rI,hjall,hkall,Hc,w9 d0];rfl
theorem kT (f:ac) (hf:small f) (hL:bz E):aM prog E 55 [.agg (bE f)] (.int .i64 (if (bi f&&dD f)=true then 0 else 3)):=by
 have hn:=hf.2.2.1
 refine zp func55 Z (by decide) Z<|ai<|ya (cs:=_) Z Z Z<|ao Z<|z6<|zd<|ai<|ae jv jj Z Z<|zh (tw f hf hL) Z<|aO Z Z<|aj Z<|zq (s:=10) Z (fun c1=>?_) (fun c1=>?_)
 ·have d1:(bi f&&dg f)=false:=by
   cases h:(bi f&&dg f) with
   |false=>rfl
   |true=>rw[h] at c1;simp at c1
  refine z7 Z Z c1<|z7 Z Z c1<|z7 Z Z c1<|aw Z c1 Z<|aj Z<|z7 Z Z Z<|z7 Z Z Z<|z7 Z Z Z<|aw Z Z Z<|z6<|yt Z Z<|ai<|ao Z<|z6<|zg<|zn (x:=.int _ _) Z ?_
  rw[show (bi f&&dD f)=false by unfold dD;cases h:bi f<;>simp_all];rfl
 ·have d1:(bi f&&dg f)=true:=by
   cases h:(bi f&&dg f) with
   |true=>rfl
   |false=>rw[h] at c1;simp at c1
  have ht:bi f=true:=by simp at d1;exact d1.1
  have hj:dg f=true:=by simp at d1;exact d1.2
  have hE:=dO ht
  have hS:=et ht
  refine z8 Z Z c1<|ae jv jj Z Z<|z8 Z Z c1<|zh (vb f hf hL ht) Z<|z8 Z Z c1<|zh (pX (ga (ah f) f.blocks.length) false (by rw[pP];omega)) Z<|ax Z c1 Z<|aj Z<|zq (s:=15) Z (fun c2=>?_) (fun c2=>?_)
  ·refine z7 Z Z c2<|z7 Z Z c2<|z7 Z Z c2<|aw Z c2 Z<|z6<|yt Z Z<|ai<|ao Z<|z6<|zg<|zn (x:=.int _ _) Z ?_
   rw[show dD f=false by unfold dD;simp_all];simp
  ·refine z8 Z Z c2<|ae jv jj Z Z<|z8 Z Z c2<|zh (Bl f hf hS) Z<|z8 Z Z c2<|aC Z<|ax Z c2 Z<|z6<|zy Z (fun c3=>?_) (fun c3=>?_)
   ·refine ai<|ao Z<|z6<|zg<|zn (x:=.int _ _) Z ?_
    rw[show dD f=false by unfold dD;simp_all];simp
   ·refine zi<|ai<|ae jv jj Z Z<|zh (vo f hf hL ht) Z<|za (ke Z)<|za (q9 (v:=.pf _) Z Z)<|za (iN Z Z)<|za (qi (v:=.pf _) Z)<|ao Z<|z6<|zd<|ai<|aa Z<|aO Z Z<|z6<|yg Z Z<|zi<|ai<|ae jv jj Z Z<|zh (kS f hf hL ht) Z<|za (nI Z)<|z6<|zd<|ai<|au jg Z Z8 Z Z<|aI Zg Z<|aq ju Z<|aa Z<|z6<|zm<|y8 (γ:=Nat) [1,3,5,32] (fun k=>[(33,.int .i64 k)]) (fun k=>[]) (fun k=>k≤f.blocks.length∧(List.range k).all (HG f)=true) (fun k=>f.blocks.length - k) 0 aK aH (⟨qw _,Z⟩) ?_
    rintro k ⟨hk,hall⟩
    refine ai<|ay Z Z<|z6<|zd<|zt Z (fun ck=>?_) (fun ck=>?_)
    ·have hk2:k<f.blocks.length:=by simp at ck;omega
     refine zi<|zd<|zm<|ai<|aa Z<|ao Z<|z6<|ai<|ae jv jj Z Z<|za (fc Z)<|be Z<|aa Z<|zh (vq f hE hf hS k hk2 (lG eI (nT f)) .any) Z<|aC Z<|z6<|zy Z (fun cq=>?_) (fun cq=>?_)
     ·refine ai<|ao Z<|z6<|zg<|zn (x:=.int _ _) Z ?_
      rw[show dD f=false by unfold dD;rw[show xl f=false from dT hk2 (by simpa using cq)];simp];simp
     ·refine zi<|aW<|aE Z Z<|aa Z<|z6 ?_
      exact ⟨k+1,gH,aK,aH,⟨hk2,cM hall (by simpa using cq)⟩,by omega⟩
    ·have hkn:k=f.blocks.length:=by simp at ck;omega
     subst hkn
     refine y6<|ai<|ao Z<|z6<|zg<|zn (x:=.int _ _) Z ?_
     rw[ht,show dD f=true by unfold dD;rw[show xl f=true from hall];simp_all];rfl
def jU (f:ac):Bool:=f.blocks.all fun b=>!(b.insts.any fun x=>decide (x.op=25)||decide (x.op=26))
theorem p7 (f:ac) (hf:small f) (hL:bz E):aM prog E 32 [.agg (bE f)] (.int .i64 (if (bi f&&(dD f&&jU f))=true then 0 else 3)):=by
 have hn:=hf.2.2.1
 refine zp func32 Z (by decide) Z<|ai<|ya (cs:=_) Z Z Z<|ao Z<|z6<|zd<|ai<|ae jv jj Z Z<|zh (kT f hf hL) Z<|ao Z<|z6<|ai<|aa Z<|aO Z Z<|z6<|zy Z (fun c1=>?_) (fun c1=>?_)
 ·have d1:(bi f&&dD f)=false:=by
   cases h:(bi f&&dD f) with
   |false=>rfl
   |true=>rw[h] at c1;simp at c1
  refine ai<|aa Z<|ao Z<|z6<|zg<|zn (x:=.int _ _) Z ?_
  rw[d1,show (bi f&&(dD f&&jU f))=false by cases h:bi f<;>simp_all]
 ·have d1:(bi f&&dD f)=true:=by
   cases h:(bi f&&dD f) with
   |true=>rfl
   |false=>rw[h] at c1;simp at c1
  have ht:bi f=true:=by simp at d1;exact d1.1
  have hs:dD f=true:=by simp at d1;exact d1.2
  refine zi<|zd<|ai<|au jg Z Z8 Z Z<|aI Zg Z<|aq ju Z<|aa Z<|z6<|zm<|y8 (γ:=Nat) [12,13] (fun k=>[(14,.int .i64 k)]) (fun k=>[]) (fun k=>k≤f.blocks.length∧(f.blocks.take k).all (fun b=>!(b.insts.any fun x=>decide (x.op=25)||decide (x.op=26)))=true) (fun k=>f.blocks.length - k) 0 aK aH (⟨qw _,Z⟩) ?_
  rintro k ⟨hk,hall⟩
  refine ai<|ay Z Z<|z6<|zd<|zt Z (fun ck=>?_) (fun ck=>?_)
  ·have hk2:k<f.blocks.length:=by simp at ck;omega
   obtain ⟨b,hbk⟩:∃b,f.blocks[k]=b:=⟨_,rfl⟩
   have hget:f.blocks[k]?=some b:=by rw[qt hk2,hbk]
   have hb2:=(hf.2.2.2.2 b (hbk▸qx hk2)).2.2.1
   refine zi<|zd<|zm<|ai<|za (bv k ju jx Z Z Z hget)<|ae Yo jx Z Z<|y7 (cs:=[.str ⟨#[]⟩,.raw (.slice none 0 0),.raw (.slice none 0 0),.int .i64 0,.int .i64 0,.int .i64 0,.int .i64 0]) Zl Z Z<|fun i5=>y1 jx Z Z Z Z Z Z .head Z<|ze (yd (t:=5) Z .head)<|z6<|ai<|au ji Z Zt Z Z<|aI Y9 Z<|zh (GB b hb2) Z<|z6<|zy Z (fun cq=>?_) (fun cq=>?_)
   ·refine ai<|ao Z<|z6<|zg<|zn (x:=.int _ _) Z ?_
    rw[show jU f=false from Bool.eq_false_iff.2 (df hk2 (by rw[hbk];simpa using cq))];simp
   ·refine zi<|aW<|aE Z Z<|aa Z<|z6 ?_
    exact ⟨k+1,eo,aK,aH,⟨hk2,bJ hk2 hall (by rw[hbk];simpa using cq)⟩,by omega⟩
  ·have hkn:k=f.blocks.length:=by simp at ck;omega
   subst hkn
   rw[qy] at hall
   refine y6<|ai<|ao Z<|z6<|zg<|zn (x:=.int _ _) Z ?_
   rw[ht,hs,show jU f=true from hall];rfl
end Go.Proofs.YtdilpodccjlkgaaGreatDoor
namespace Go.Proofs.YtdilpodccjlkgaaGreatDoor
open Go.Proofs.Tryz
structure FrS (E:Int→List Int) (a shut:Int) (n:Nat) (out:List Bool):Prop where
 len:out.length=n
 sound:∀b:Nat,out[b]?=some true→gX E a shut b
def xt (a:Int) (out:List Bool) (shut x:Int):Prop:=x≠shut∧(x=a∨gb out x=true)
instance (a:Int) (out:List Bool) (shut x:Int):Decidable (xt a out shut x):=by unfold xt;infer_instance
def Bm (E:Int→List Int) (a shut:Int) (out:List Bool) (k:Nat):Prop:=∀x:Nat,x<k→xt a out shut x→∀y:Nat,(y:Int)∈E x→(y:Int)≠shut→gb out y=true
def HI (E:Int→List Int) (a shut:Int) (out:List Bool) (x j:Nat):Prop:=xt a out shut x→∀y:Nat,y<j→(y:Int)∈E x→(y:Int)≠shut→gb out y=true
def l8 (out:List Bool):Nat:=(out.filter fun b=>!b).length
theorem C6 (out:List Bool) (k:Nat):gb out (k:Int)=(out[k]?).getD false:=rfl
theorem lw {out:List Bool} {k:Nat} (h:k<out.length):out[k]?=some (gb out k):=by
 rw[C6,qt h];rfl
theorem FrS.begin (E:Int→List Int) (a shut:Int) (n:Nat):FrS E a shut n (List.replicate n false):=⟨by simp,fun b h=>by
 rw[List.getElem?_replicate] at h;split at h<;>simp at h⟩
theorem FrS.set {E:Int→List Int} {a shut:Int} {n:Nat} {out:List Bool} (h:FrS E a shut n out) {x y:Nat} (hx:xt a out shut x) (ha:a≠shut∨(x:Int)≠a) (he:(y:Int)∈E x) (hy:(y:Int)≠shut):FrS E a shut n (out.set y true):=by
 refine ⟨by rw[List.length_set];exact h.len,fun b hb=>?_⟩
 by_cases e:b=y
 ·subst e
  refine gX.step (x:=x) ?_ he hy
  rcases hx.2 with e|hg
  ·left
   refine ⟨e,?_⟩
   rw[←e];exact hx.1
  ·right
   by_cases hlt:x<out.length
   ·exact h.sound x (by rw[lw hlt,hg])
   ·rw[C6,List.getElem?_eq_none (by omega)] at hg;simp at hg
 ·rw[List.getElem?_set_ne (fun e2=>e e2.symm)] at hb;exact h.sound b hb
theorem xu {out:List Bool} {y:Nat} (hy:y<out.length) (h:gb out y=false):l8 (out.set y true)+1=l8 out:=jM out y (by rw[lw hy,h])
structure HJ (E:Int→List Int) (a shut:Int) (n:Nat) (o0 out:List Bool) (again:Bool):Prop extends FrS E a shut n out where
 less:l8 out≤l8 o0
 more:again=true→l8 out<l8 o0
 same:again=false→out=o0
theorem HJ.hit {E:Int→List Int} {a shut:Int} {n:Nat} {o0 out:List Bool} {again:Bool} (h:HJ E a shut n o0 out again) {x y:Nat} (hx:xt a out shut x) (he:(y:Int)∈E x) (hy:(y:Int)≠shut) (hlt:y<n) (hf:gb out y=false):HJ E a shut n o0 (out.set y true) true:=by
 have h1:=xu (out:=out) (y:=y) (by rw[h.len];exact hlt) hf
 have h2:=h.less
 exact { h.toFrS.set hx (by
      by_cases e:(x:Int)=a
      ·left;rw[←e];exact hx.1
      ·exact .inr e) he hy with
     less:=by omega
     more:=fun _=>by omega
     same:=fun e=>by cases e }
theorem FrS.all {E:Int→List Int} {a shut:Int} {n:Nat} {out:List Bool} (hE:fT E n) (ha:a=a∧0≤a∧a<n) (h:FrS E a shut n out) (hc:Bm E a shut out n) (b:Nat) (hb:b<n):gb out b=true↔gX E a shut b:=by
 constructor
 ·intro hg;exact h.sound b (by rw[lw (by rw[h.len];exact hb),hg])
 ·intro hf
  have:=gX.closed (out:=fun x:Int=>0≤x∧x<n∧gb out x=true) (fun x y h1 h2 h3 h4=>by
   have hxr:0≤x∧x<n:=by
    rcases h2 with e|h2
    ·rw[e];exact ha.2
    ·exact ⟨h2.1,h2.2.1⟩
   have hy:=hE.rng x hxr.1 hxr.2 y h3
   have e1:((x.toNat:Nat):Int)=x:=wc hxr.1
   have e2:((y.toNat:Nat):Int)=y:=wc hy.1
   refine ⟨hy.1,hy.2,?_⟩
   have:=hc x.toNat (by omega) ⟨by rw[e1];exact h1,by
    rw[e1]
    rcases h2 with e|h2
    ·exact .inl e
    ·exact .inr h2.2.2⟩ y.toNat (by rw[e1,e2];exact h3) (by rw[e2];exact h4)
   rwa [e2] at this) hf
  exact this.2.2
open Classical in
noncomputable def kU (E:Int→List Int) (n:Nat) (a shut:Int):List Bool:=(bx n).map fun b=>decide (gX E a shut b)
open Classical in
theorem FrS.eq {E:Int→List Int} {a shut:Int} {n:Nat} {out:List Bool} (hE:fT E n) (ha:0≤a∧a<n) (h:FrS E a shut n out) (hc:Bm E a shut out n):out=kU E n a shut:=by
 refine List.ext_getElem (by rw[h.len];unfold kU;rw[w1,bS]) fun k h1 h2=>?_
 have hk:k<n:=by rw[h.len] at h1;exact h1
 have:=h.all hE ⟨rfl,ha⟩ hc k hk
 have e1:out[k]=gb out k:=by have:=lw h1;rw[qt h1] at this;simpa using this
 have e2:(kU E n a shut)[k]=decide (gX E a shut k):=by
  have h3:(kU E n a shut)[k]?=some (decide (gX E a shut k)):=by unfold kU;rw[w2,eM hk];rfl
  rw[qt h2] at h3
  simpa using h3
 rw[e1,e2]
 by_cases hf:gX E a shut k
 ·rw[w8 hf];exact this.2 hf
 ·rw[w9 hf];exact Bool.eq_false_iff.2 fun e=>hf (this.1 e)
open Classical in
noncomputable def nl (E:Int→List Int) (n:Nat) (shut:Int):List Bool:=(bx n).map fun b=>decide (jG E (fun x=>x≠shut) 0 b)
open Classical in
theorem Bn {E:Int→List Int} {n k:Nat} {a shut:Int} (hk:k<n):(kU E n a shut)[k]?=some (decide (gX E a shut k)):=by unfold kU;rw[w2,eM hk];rfl
open Classical in
theorem l9 {E:Int→List Int} {n k:Nat} {shut:Int} (hk:k<n):(nl E n shut)[k]?=some (decide (jG E (fun x=>x≠shut) 0 k)):=by unfold nl;rw[w2,eM hk];rfl
theorem lx (E:Int→List Int) (n:Nat) (a shut:Int):(kU E n a shut).length=n:=by unfold kU;rw[w1,bS]
theorem p8 (E:Int→List Int) (n:Nat) (shut:Int):(nl E n shut).length=n:=by unfold nl;rw[w1,bS]
open Classical in
theorem Bo {E:Int→List Int} {n:Nat} (shut:Int):(kU E n 0 shut).set 0 (decide (shut≠0))=nl E n shut:=by
 refine List.ext_getElem? fun k=>?_
 by_cases hk:k<n
 ·rw[l9 hk]
  have hiff:=CG (E:=E) (shut:=shut) (b:=(k:Int))
  by_cases e:k=0
  ·subst e
   rw[List.getElem?_set_self (by rw[lx];exact hk)]
   refine congrArg some (Bool.eq_iff_iff.2 ?_)
   rw[decide_eq_true_iff,decide_eq_true_iff,←hiff]
   constructor
   ·intro h;exact .inl ⟨rfl,h⟩
   ·rintro (⟨_,h⟩|⟨h,_⟩)
    ·exact h
    ·exact absurd rfl h
  ·rw[List.getElem?_set_ne (fun e2=>e e2.symm),Bn hk]
   refine congrArg some (Bool.eq_iff_iff.2 ?_)
   rw[decide_eq_true_iff,decide_eq_true_iff,←hiff]
   constructor
   ·intro h;exact .inr ⟨by omega,h⟩
   ·rintro (⟨h,_⟩|⟨_,h⟩)
    ·omega
    ·exact h
 ·rw[List.getElem?_eq_none (by rw[List.length_set,lx];omega),List.getElem?_eq_none (by rw[p8];omega)]
end Go.Proofs.YtdilpodccjlkgaaGreatDoor
namespace Go.Proofs.YtdilpodccjlkgaaGreatDoor
open Go.Proofs.Tryz
def ku (v:Nat) (ev:List (Int × gA)):Nat:=(ev.filter fun e=>decide (e.1=(v:Int))).length
theorem ly (v:Nat) (ev:List (Int × gA)) (d:Int) (x:gA):ku v (ev++[(d,x)])=ku v ev+if d=(v:Int) then 1 else 0:=by
 unfold ku;rw[List.filter_append,qz]
 by_cases h:d=(v:Int)<;>simp[h]
theorem vt (f:ac) (v:Nat):(bu f v).length=ku v (dC f f.blocks.length):=by rw[←mG,w1];rfl
theorem zI (v:Nat) (ev:List (Int × gA)):ku v ev≤ev.length:=List.length_filter_le _ _
theorem p9 {f:ac}:∀{n k:Nat},k≤n→n≤f.blocks.length→dC f k <+: dC f n
 |0,k,h,_=>by rw[show k=0 by omega];exact List.prefix_refl _
 |n+1,k,h,hn=>by
  by_cases e:k=n+1
  ·rw[e];exact List.prefix_refl _
  ·rw[gc (by omega)]
   exact (p9 (by omega) (by omega)).trans (List.prefix_append _ _)
theorem C7 (i:Nat) (ps:List dG) (j:Nat):dH i (ps.take j) <+: dH i ps:=by
 unfold dH
 obtain ⟨r,hr⟩:=List.take_prefix j ps
 exact ⟨r.map fun p=>(p.dst,((i:Int),-1)),by rw[←w5,hr]⟩
theorem vu (i:Nat) (xs:List aF):∀(m j:Nat),j≤m→m≤xs.length→gq i (xs.take j) <+: gq i (xs.take m)
 |0,j,h,_=>by rw[show j=0 by omega];exact List.prefix_refl _
 |m+1,j,h,hm=>by
  by_cases e:j=m+1
  ·rw[e];exact List.prefix_refl _
  ·rw[iT i (by omega)]
   exact (vu i xs m j (by omega) (by omega)).trans (List.prefix_append _ _)
theorem EV {f:ac} {k j:Nat} {b:aX} (hk:k<f.blocks.length) (hb:f.blocks[k]=b) (hj:j<b.phis.length):(dC f k++dH k (b.phis.take j))++[(b.phis[j].dst,((k:Int),(-1:Int)))] <+: dC f f.blocks.length:=by
 refine List.IsPrefix.trans ?_ (p9 (show k+1≤f.blocks.length by omega) (Nat.le_refl _))
 rw[gc hk,hb,qv,←lu k hj,pS]
 exact (List.prefix_append_right_inj _).2 ((C7 k b.phis (j+1)).trans (List.prefix_append _ _))
theorem C8 {f:ac} {k j:Nat} {b:aX} (hk:k<f.blocks.length) (hb:f.blocks[k]=b) (hj:j<b.insts.length) (h0:0≤b.insts[j].dst):(dC f k++dH k b.phis++gq k (b.insts.take j))++[(b.insts[j].dst,((k:Int),(j:Int)))] <+: dC f f.blocks.length:=by
 refine List.IsPrefix.trans ?_ (p9 (show k+1≤f.blocks.length by omega) (Nat.le_refl _))
 have h:=iT k hj
 rw[if_pos h0] at h
 rw[gc hk,hb,qv,←h,pS,qv]
 have h2:=vu k b.insts b.insts.length (j+1) (by omega) (Nat.le_refl _)
 rw[qy] at h2
 exact (List.prefix_append_right_inj _).2 ((List.prefix_append_right_inj _).2 h2)
theorem sD {f:ac} {v:Nat} {pre:List (Int × gA)} {x:gA} (hp:pre++[((v:Int),x)] <+: dC f f.blocks.length) (h0:ku v pre=0):aL f v=x:=by
 obtain ⟨r,hr⟩:=hp
 have h1:pre.filter (fun e=>decide (e.1=(v:Int)))=[]:=List.eq_nil_of_length_eq_zero h0
 unfold aL
 rw[←mG,←hr,List.filter_append,List.filter_append,h1]
 simp
theorem xv {f:ac} {v:Nat} (h0:ku v (dC f f.blocks.length)=0):aL f v=(-1,0):=by
 unfold aL
 rw[←mG,List.eq_nil_of_length_eq_zero h0]
 rfl
noncomputable section
def eF (f:ac) (m:gA) (b at_:Int):Bool:=by
 classical exact if m.1<0 then true else if m.1=b then decide (m.2<at_) else !decide (jG (ah f) (fun x=>x≠m.1) 0 b)
def Hd (f:ac) (p:dG):Bool:=(p.args.zip p.from_).all fun q=>eF f (aL f q.1) q.2 (fE f q.2)
def He (f:ac) (i:Nat) (x:aF × Nat):Bool:=x.1.args.all fun v=>eF f (aL f v) i x.2
def Hf (f:ac) (i:Nat) (b:aX):Bool:=decide (b.term.kind=0)||eF f (aL f b.term.var) i b.insts.length
def ov (f:ac) (i:Nat) (b:aX):Bool:=by
 classical exact decide (om (ah f) (i:Int))&&(b.phis.all (Hd f)&&(b.insts.zipIdx.all (He f i)&&Hf f i b))
def Hg (f:ac) (i:Nat):Bool:=((f.blocks[i]?).map (ov f i)).getD true
def iV (f:ac):Bool:=dg f&&(lK f&&(List.range f.blocks.length).all (Hg f))
end
theorem nm {f:ac} {i:Nat} {b:aX} (h:f.blocks[i]?=some b):Hg f i=ov f i b:=by unfold Hg;rw[h];rfl
theorem nq {f:ac} (hE:bW f) (m:gA) {b:Int} (at_:Int) (hb:om (ah f) b):eF f m b at_=ff f m b at_:=by
 rw[w3,ia hE]
 unfold eF cY
 by_cases h0:m.1<0
 ·rw[if_pos h0];simp[h0]
 ·rw[if_neg h0]
  by_cases h1:m.1=b
  ·rw[if_pos h1];simp[h1];omega
  ·rw[if_neg h1]
   simp only[Bool.not_eq_true',decide_eq_false_iff_not]
   constructor
   ·intro h;exact .inr (.inr ⟨by omega,h1,hb,h⟩)
   ·rintro (h|h|h)
    ·exact absurd h h0
    ·exact absurd h.1 h1
    ·exact h.2.2.2
theorem C9 {f:ac} (hE:bW f) (hfr:∀b∈f.blocks,∀p∈b.phis,∀c∈p.from_,0≤c∧c<f.blocks.length):iV f=dD f:=by
 unfold iV dD
 by_cases hA:CI f
 ·have hall:(ga (ah f) f.blocks.length).contains false=false:=(l5 hE).2 hA
  rw[hall]
  have hrch:∀c:Int,0≤c→c<f.blocks.length→om (ah f) c:=fun c h0 h1=>by
   have:=hA c.toNat (by omega)
   rwa [show ((c.toNat:Nat):Int)=c by omega] at this
  have:(List.range f.blocks.length).all (Hg f)=xl f:=by
   unfold xl
   rw[w3,wb,wb]
   refine forall_congr' fun i=>?_
   constructor
   all_goals
    intro h hi
    have hi2:=List.mem_range.1 hi
    have h:=h hi
    have hget:f.blocks[i]?=some f.blocks[i]:=qt hi2
    have hmem:=qx hi2
    have e1:f.blocks[i].phis.all (Hd f)=f.blocks[i].phis.all (Gz f):=by
     rw[w3,wb,wb]
     refine forall_congr' fun p=>forall_congr' fun hp=>?_
     unfold Hd Gz
     rw[wb,wb]
     refine forall_congr' fun q=>forall_congr' fun hq=>?_
     have hc:=hfr _ hmem p hp q.2 (List.of_mem_zip hq).2
     rw[nq hE _ _ (hrch q.2 hc.1 hc.2)]
    have e2:f.blocks[i].insts.zipIdx.all (He f i)=f.blocks[i].insts.zipIdx.all (C1 f i):=by
     rw[w3,wb,wb]
     refine forall_congr' fun x=>forall_congr' fun _=>?_
     unfold He C1
     rw[wb,wb]
     refine forall_congr' fun v=>forall_congr' fun _=>?_
     rw[nq hE _ _ (hA i hi2)]
    have e3:Hf f i f.blocks[i]=Hc f i f.blocks[i]:=by unfold Hf Hc;rw[nq hE _ _ (hA i hi2)]
    have e:ov f i f.blocks[i]=rI f i f.blocks[i]:=by
     unfold ov rI;rw[e1,e2,e3];simp[hA i hi2,Bool.and_assoc]
    first
     |(rw[nm hget,e] at h;rw[pW hget];exact h)
     |(rw[pW hget,←e] at h;rw[nm hget];exact h)
  rw[this]
  simp
 ·have h1:(ga (ah f) f.blocks.length).contains false=true:=by
   cases h:(ga (ah f) f.blocks.length).contains false with
   |true=>rfl
   |false=>exact absurd ((l5 hE).1 h) hA
  have h2:(List.range f.blocks.length).all (Hg f)=false:=by
   rw[Bool.eq_false_iff]
   intro h
   apply hA
   intro i hi
   have:=List.all_eq_true.1 h i (List.mem_range.2 hi)
   rw[nm (qt hi)] at this
   unfold ov at this
   simp only[wa,wg] at this
   exact this.1
  rw[h1,h2]
  simp
end Go.Proofs.YtdilpodccjlkgaaGreatDoor
namespace Go.Proofs.YtdilpodccjlkgaaGreatDoor
open Go.Proofs.Tryz
theorem ns {v i:Int} {b:aX} {m:gA}:m∈sm v i b↔(∃p∈b.phis,p.dst=v∧m=(i,-1))∨∃(k:Nat) (x:aF),b.insts[k]?=some x∧x.dst=v∧m=(i,(k:Int)):=by
 unfold sm
 rw[List.mem_append]
 constructor
 ·rintro (h|h)
  ·obtain ⟨p,hp,e⟩:=List.mem_map.1 h
   obtain ⟨h1,h2⟩:=List.mem_filter.1 hp
   exact .inl ⟨p,h1,by simpa using h2,e.symm⟩
  ·obtain ⟨q,hq,e⟩:=List.mem_map.1 h
   obtain ⟨h1,h2⟩:=List.mem_filter.1 hq
   obtain ⟨x,k⟩:=q
   have:=List.mem_zipIdx_iff_getElem?.1 h1
   exact .inr ⟨k,x,this,by simpa using h2,e.symm⟩
 ·rintro (⟨p,h1,h2,rfl⟩|⟨k,x,h1,h2,rfl⟩)
  ·exact .inl (List.mem_map.2 ⟨p,List.mem_filter.2 ⟨h1,by simpa using h2⟩,rfl⟩)
  ·exact .inr (List.mem_map.2 ⟨(x,k),List.mem_filter.2 ⟨List.mem_zipIdx_iff_getElem?.2 h1,by simpa using h2⟩,rfl⟩)
theorem kV {f:ac} {v:Int} {m:gA}:m∈bu f v↔∃(i:Nat) (b:aX),f.blocks[i]?=some b∧m∈sm v i b:=by
 unfold bu
 rw[List.mem_flatMap]
 constructor
 ·rintro ⟨⟨b,i⟩,h1,h2⟩;exact ⟨i,b,List.mem_zipIdx_iff_getElem?.1 h1,h2⟩
 ·rintro ⟨i,b,h1,h2⟩;exact ⟨(b,i),List.mem_zipIdx_iff_getElem?.2 h1,h2⟩
theorem Bp {f:ac} {v:Int} (h:0≤(aL f v).1):aL f v∈bu f v:=by
 unfold aL at h ⊢
 cases hm:bu f v with
 |nil=>rw[hm] at h;simp at h
 |cons x l=>simp
theorem vv {f:ac} {v:Int} {m:gA} (hl:(bu f v).length≤1) (h:m∈bu f v):aL f v=m:=by
 unfold aL
 cases hm:bu f v with
 |nil=>rw[hm] at h;cases h
 |cons x l=>
  rw[hm] at h hl
  cases l with
  |nil=>simp at h;simp[h]
  |cons y l=>simp at hl
theorem vw {f:ac} {v:Int} (h:0≤(aL f v).1):∃(i:Nat) (b:aX),f.blocks[i]?=some b∧((∃p∈b.phis,p.dst=v∧aL f v=((i:Int),-1))∨∃(k:Nat) (x:aF),b.insts[k]?=some x∧x.dst=v∧aL f v=((i:Int),(k:Int))):=by
 obtain ⟨i,b,h1,h2⟩:=kV.1 (Bp h)
 exact ⟨i,b,h1,ns.1 h2⟩
end Go.Proofs.YtdilpodccjlkgaaGreatDoor
namespace Go.Proofs.YtdilpodccjlkgaaGreatDoor
open Go.Proofs.Tryz
end Go.Proofs.YtdilpodccjlkgaaGreatDoor
namespace Go.Proofs.YtdilpodccjlkgaaGreatDoor
open Go.Proofs.Tryz
def FZ (q:Int):Prop:=21≤q∧q≤23
instance (q:Int):Decidable (FZ q):=by unfold FZ;infer_instance
end Go.Proofs.YtdilpodccjlkgaaGreatDoor
namespace Go.Proofs.YtdilpodccjlkgaaGreatDoor
open Go.Proofs.Tryz
end Go.Proofs.YtdilpodccjlkgaaGreatDoor
namespace Go.Proofs.YtdilpodccjlkgaaGreatDoor
open Go.Proofs.Tryz
section
variable {n:Nat} {rule:List fJ→Int→fJ} {vs:List Int} {phi:Int→Prop} {rank:Int→Nat}
end
section
variable {n:Nat} {rule:List fJ→Int→fJ} {vs:List Int} {phi:Int→Prop} {t:Int→fJ}
end
end Go.Proofs.YtdilpodccjlkgaaGreatDoor
