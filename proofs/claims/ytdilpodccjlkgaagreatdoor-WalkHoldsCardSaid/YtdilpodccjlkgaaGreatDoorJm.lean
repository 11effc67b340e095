/- The rounds of ranges stop soon. Plain law. No conditions but int64s. -/
import Derived.Test.YtdilpodccjlkgaaGreatDoorJl
import Derived.Test.YtdilpodccjlkgaaGreatDoorJe
import Derived.Test.YtdilpodccjlkgaaGreatDoorJj
import Derived.Test.YtdilpodccjlkgaaGreatDoorJf
set_option linter.unusedVariables false
set_option linter.unusedSimpArgs false
set_option linter.unusedSectionVars false
namespace Go.Proofs.YtdilpodccjlkgaaGreatDoor
open Go.Proofs.Tryz
open Go.Proofs Go.Lib Go.Shelf Go.RowKit
theorem Dh:dE prog 77 #[(0,1),(1,1)] [.int .i64 0,.int .i64 0]:=⟨_,_,Zp,zeroValue77,fun w=>by kernel_rfl,rfl⟩
theorem ny:df prog 69 77 1 2 [.int .i64 0,.int .i64 0]:=⟨_,Zw,Yt,zeroValue77,by decide,by decide,by kernel_rfl⟩
variable {E:World}
set_option maxRecDepth 20000
theorem bS.dstPhi {f:ac} (h:bS f) {b:aX} (hb:b∈f.blocks) {p:dF} (hp:p∈b.phis):0≤p.dst∧p.dst<f.vars.length:=by
 have:=((h.2.2.2.2.2 b hb).1 p hp).1
 simpa [bd] using this
theorem bS.dstInst {f:ac} (h:bS f) {b:aX} (hb:b∈f.blocks) {x:aF} (hx:x∈b.insts) (h0:0≤x.dst):x.dst<f.vars.length:=by
 rcases (gN ((h.2.2.2.2.2 b hb).2.1 x hx)).dst with ⟨_,d⟩|⟨_,_,d⟩
 ·omega
 ·have:0≤x.dst∧x.dst<f.vars.length:=by simpa [bd] using d
  exact this.2
theorem small.evs {f:ac} (hf:small f) {k:Nat} (hk:k≤f.blocks.length):(dG f k).length≤2000000:=by
 have h1:=vk (m:=2000) (fun b hb=>by have:=hf.2.2.2.2 b hb;have h2:=this.2.1;have h3:=this.2.2.1;omega) k hk
 have:=hf.2.2.1
 omega
set_option maxHeartbeats 4000000 in
theorem oc (f:ac) (hf:small f) (hS:bS f):aZ prog E 63 [.agg (bD f)] []
  fun x O=>∃b:Nat,x=el b f.vars.length∧O=[(0,dy eP 69 77 b (p8 f))]:=by
 have hv:=hf.1
 have hn:=hf.2.2.1
 refine zp func63 Z (by decide) Z<|ai<|y9 (cs:=_) Z Z Z<|za (jK Z)<|z6<|ai<|au jg Z Yc Z Z<|aI Yn Z<|ap Z9 Z<|yb (m:=f.vars.length) Ya type69 Z Z Z Z Z (by simp) (by simp) (by show (24:Int)*_≤_;omega) (by omega) eP 77<|fun b13=>za (qi (v:=el _ _) Z)<|z6<|zd<|ai<|au jg Z Z8 Z Z<|aI Zh Z<|ap ju Z<|aa Z<|z6<|zk<|y7 (γ:=Nat) [3,15,16] (fun k=>[(17,.int .i64 k)]) (fun k=>[(0,dy eP 69 77 b13 (cC f.vars.length (dG f k)))]) (fun k=>k≤f.blocks.length) (fun k=>f.blocks.length - k) 0 aK ⟨_,(.refl _),by rw[p5];rfl⟩ (qw _) ?_
 rintro k hk
 refine ai<|ax Z Z<|z6<|zd<|zt Z (fun ck=>?_) (fun ck=>?_)
 ·have hk2:k<f.blocks.length:=by simp at ck;omega
  obtain ⟨b,hbk⟩:∃b,f.blocks[k]=b:=⟨_,rfl⟩
  have hget:f.blocks[k]?=some b:=by rw[qt hk2,hbk]
  have hmem:b∈f.blocks:=hbk▸qx hk2
  obtain ⟨hb0,hb1,hb2,hb3,hb4⟩:=hf.2.2.2.2 b hmem
  have hevl:=hf.evs hk
  refine zh<|zd<|zk<|ai<|aa Z<|za (bv k ju jy Z Z Z hget)<|ae Yo jy Z Z<|y6 (cs:=[.str ⟨#[]⟩,.raw (.slice none 0 0),.raw (.slice none 0 0),.int .i64 0,.int .i64 0,.int .i64 0,.int .i64 0]) Zl Z Z<|fun i5=>ak Z<|y1 jy Z Z Z Z Z Z .head Z<|ze (yc (t:=5) Z .head)<|z6<|zd<|ai<|au ji Z Yl Z Z<|aI Yv Z<|ap Z4 Z<|aa Z<|z6<|zk<|y7 (γ:=Nat) [3,4,5,15,16,17,23,24] (fun j=>[(25,.int .i64 j)]) (fun j=>[(0,dy eP 69 77 b13 (cC f.vars.length (dG f k++dJ k (b.phis.take j))))]) (fun j=>j≤b.phis.length) (fun j=>b.phis.length - j) 0 aK ⟨_,(.refl _),by rw[show dJ k (b.phis.take 0)=[] from rfl,w6]⟩ (qw _) ?_
  rintro j hj
  refine ai<|ax Z Z<|z6<|zd<|zt Z (fun cj=>?_) (fun cj=>?_)
  ·have hj2:j<b.phis.length:=by simp at cj;omega
   obtain ⟨p,hp⟩:∃p,b.phis[j]=p:=⟨_,rfl⟩
   obtain ⟨hd0,hdn⟩:=hS.dstPhi hmem (hp▸qx hj2)
   obtain ⟨rows,hrows⟩:∃rows,cC f.vars.length (dG f k++dJ k (b.phis.take j))=rows:=⟨_,rfl⟩
   have hdl:p.dst.toNat<(cC f.vars.length (dG f k++dJ k (b.phis.take j))).length:=by rw[cL];omega
   have hrl:=jW hdl
   have hsucc:=kW (x:=((k:Int),(-1:Int))) hd0 hdl
   have hrn:=cL f.vars.length (dG f k++dJ k (b.phis.take j))
   have hel:(dG f k++dJ k (b.phis.take j)).length≤2001000:=by rw[qz,dJ,w1,w7];omega
   rw[qv,show dJ k (b.phis.take j)++[(p.dst,((k:Int),(-1:Int)))]=dJ k (b.phis.take (j+1)) by rw[lE k hj2,hp]] at hsucc
   simp only[hrows] at hdl hrl hsucc hrn
   rw[hrows]
   refine zh<|zd<|zk<|ai<|za (bv j Z4 Zb Z Z Z (by rw[qt hj2,hp])) ?_
   refine ae X1 Zb Z Z<|y6 (cs:=[.int .i64 0,.raw (.slice none 0 0),.raw (.slice none 0 0)]) Yf Z Z<|fun i7=>y1 Zb Z Z Z Z Z Z .head Z<|ze (yc (t:=7) Z .head)<|z6<|ye (γ:=Unit) [3,4,5,15,16,17,23,24,25] (fun u=>[]) (fun u=>[(0,dy eP 69 77 b13 (rows.set p.dst.toNat (rows[p.dst.toNat]++[((k:Int),-1)])))]) (fun u=>True) ?_ (fun _ _ h=>h) ?_
   ·refine zr (fun j=>Nat.beq j 13) (by kernel_rfl) Z (zj (.rest _))<|ad 0 Z (yw (v:=el _ _) Z)<|ad 1 Z (bM Z0 Z wz Z Z)<|ad 2 Z (cR j6 Z)<|ad 3 Z (yw (v:=el _ _) Z)<|ad 4 Z (bM Z0 Z wz Z Z)<|ad 5 Z (cR j6 Z)<|ad 6 Z (qp (j:=p.dst.toNat) Ya Yu Z Z (by omega) (by omega))<|ad 8 Z (cD Z)<|ad 9 Z (y4 (cps:=[(0,[_]),(1,[_])]) (rs:=[_,_]) Dh Z Z Z)<|yr (i:=7) (j:=10) Z Z (by kernel_rfl) ?_ ?_
    ·refine qd (j:=p.dst.toNat) (r:=rows[p.dst.toNat]) Xe Z (qt hdl) (fun _=>.head)<|fun i36=>z6<|aQ 10 Z<|y3 (rows:=[[_,_]]) ny Z Z Z Z Z<|z6<|aQ 11 Z<|yq (k:=2) Zw type77 Z Z Z Z Z (fun _=>.head) (by rw[eP.av_len];rfl) (by decide) Z (by show (_+1)*16≤_;omega) (by show _+1≤_;omega)<|fun i40=>z6<|ad 12 Z (qp (j:=p.dst.toNat) Ya Yu Z Z (by omega) (by omega))<|yf<|yi (i:=13) Z (by kernel_rfl) (by kernel_rfl)<|qq (j:=p.dst.toNat) (r:=rows[p.dst.toNat]++[((k:Int),-1)]) Yu Z Z (by omega) .head .head Z (eP.av_push rows[p.dst.toNat] ((k:Int),(-1:Int))) (by simp)<|z6<|ym (by kernel_rfl) ?_
     exact ⟨(),tg,trivial,aH,trivial⟩
    ·refine y3 (rows:=[[_,_]]) ny Z Z Z Z Z<|z6<|aQ 7 Z<|qd (j:=p.dst.toNat) (r:=rows[p.dst.toNat]) Xe Z (qt hdl) (fun _=>.head)<|fun i36=>z6<|aQ 11 Z<|yq (k:=2) Zw type77 Z Z Z Z Z (fun _=>.head) (by rw[eP.av_len];rfl) (by decide) Z (by show (_+1)*16≤_;omega) (by show _+1≤_;omega)<|fun i40=>z6<|ad 12 Z (qp (j:=p.dst.toNat) Ya Yu Z Z (by omega) (by omega))<|yf<|yi (i:=13) Z (by kernel_rfl) (by kernel_rfl)<|qq (j:=p.dst.toNat) (r:=rows[p.dst.toNat]++[((k:Int),-1)]) Yu Z Z (by omega) .head .head Z (eP.av_push rows[p.dst.toNat] ((k:Int),(-1:Int))) (by simp)<|z6<|ym (by kernel_rfl) ?_
     exact ⟨(),tg,trivial,aH,trivial⟩
   ·rintro _ _
    refine aT<|aC Z Z<|aa Z<|z6 ?_
    exact ⟨j+1,wU,aK,⟨_,(.refl _),by rw[hsucc]⟩,hj2,by omega⟩
  ·have hjn:j=b.phis.length:=by simp at cj;omega
   subst hjn
   rw[qy]
   refine y5<|ai<|au ji Z Zq Z Z<|aI Y4 Z<|ap jz Z<|aa Z<|z6<|zk<|y7 (γ:=Nat) [3,4,15,16,17,44,45] (fun j=>[(46,.int .i64 j)]) (fun j=>[(0,dy eP 69 77 b13 (cC f.vars.length (dG f k++dJ k b.phis++gt k (b.insts.take j))))]) (fun j=>j≤b.insts.length) (fun j=>b.insts.length - j) 0 aK ⟨_,(.refl _),by rw[show gt k (b.insts.take 0)=[] from rfl,w6]⟩ (qw _) ?_
   rintro j hj
   refine ai<|ax Z Z<|z6<|zd<|zt Z (fun cj=>?_) (fun cj=>?_)
   ·have hj2:j<b.insts.length:=by simp at cj;omega
    obtain ⟨p,hp⟩:∃p,b.insts[j]=p:=⟨_,rfl⟩
    have hev:=iW k hj2
    rw[hp] at hev
    refine zh<|zd<|zk<|ai<|aa Z<|za (bv j jz jx Z Z Z (by rw[qt hj2,hp])) ?_
    refine ae Y0 jx Z Z<|y6 (cs:=[.int .i64 0,.int .i64 0,.raw (.slice none 0 0),.int .i64 0]) Zf Z Z<|fun i9=>ak Z<|y1 jx Z Z Z Z Z Z .head Z<|ze (yc (t:=9) Z .head)<|z6<|ai<|au j5 Z wz Z Z<|aA j6 Z<|za (q5 Z Z)<|z6<|zy Z (fun cd=>?_) (fun cd=>?_)
    ·have hd0:0≤p.dst:=by simpa using cd
     have hdn:=hS.dstInst hmem (hp▸qx hj2) hd0
     rw[if_pos hd0] at hev
     obtain ⟨rows,hrows⟩:∃rows,cC f.vars.length (dG f k++dJ k b.phis++gt k (b.insts.take j))=rows:=⟨_,rfl⟩
     have hdl:p.dst.toNat<(cC f.vars.length (dG f k++dJ k b.phis++gt k (b.insts.take j))).length:=by rw[cL];omega
     have hrl:=jW hdl
     have hsucc:=kW (x:=((k:Int),(j:Int))) hd0 hdl
     have hrn:=cL f.vars.length (dG f k++dJ k b.phis++gt k (b.insts.take j))
     have hel:(dG f k++dJ k b.phis++gt k (b.insts.take j)).length≤2002000:=by
      have:=p7 k (b.insts.take j)
      rw[w7] at this
      rw[qz,qz,dJ,w1];omega
     rw[qv (dG f k++dJ k b.phis) (gt k (b.insts.take j)) [(p.dst,((k:Int),(j:Int)))],←hev] at hsucc
     simp only[hrows] at hdl hrl hsucc hrn
     rw[hrows]
     refine ye (γ:=Unit) [3,4,15,16,17,44,45,46] (fun u=>[]) (fun u=>[(0,dy eP 69 77 b13 (rows.set p.dst.toNat (rows[p.dst.toNat]++[((k:Int),(j:Int))])))]) (fun u=>True) ?_ (fun _ _ h=>h) ?_
     ·refine zr (fun j=>Nat.beq j 14) (by kernel_rfl) Z (zj (.rest _))<|ad 0 Z (yw (v:=el _ _) Z)<|ad 1 Z (bM j5 Z wz Z Z)<|ad 2 Z (cR j6 Z)<|ad 3 Z (yw (v:=el _ _) Z)<|ad 4 Z (bM j5 Z wz Z Z)<|ad 5 Z (cR j6 Z)<|ad 6 Z (qp (j:=p.dst.toNat) Ya Yu Z Z (by omega) (by omega))<|ad 8 Z (cD Z)<|ad 9 Z (cD Z)<|ad 10 Z (y4 (cps:=[(0,[_]),(1,[_])]) (rs:=[_,_]) Dh Z Z Z)<|yr (i:=7) (j:=11) Z Z (by kernel_rfl) ?_ ?_
      ·refine qd (j:=p.dst.toNat) (r:=rows[p.dst.toNat]) Xe Z (qt hdl) (fun _=>.head)<|fun i61=>z6<|aQ 11 Z<|y3 (rows:=[[_,_]]) ny Z Z Z Z Z<|z6<|aQ 12 Z<|yq (k:=2) Zw type77 Z Z Z Z Z (fun _=>.head) (by rw[eP.av_len];rfl) (by decide) Z (by show (_+1)*16≤_;omega) (by show _+1≤_;omega)<|fun i66=>z6<|ad 13 Z (qp (j:=p.dst.toNat) Ya Yu Z Z (by omega) (by omega))<|yf<|yi (i:=14) Z (by kernel_rfl) (by kernel_rfl)<|qq (j:=p.dst.toNat) (r:=rows[p.dst.toNat]++[((k:Int),(j:Int))]) Yu Z Z (by omega) .head .head Z (eP.av_push rows[p.dst.toNat] ((k:Int),(j:Int))) (by simp)<|z6<|ym (by kernel_rfl) ?_
       exact ⟨(),wU,trivial,aH,trivial⟩
      ·refine y3 (rows:=[[_,_]]) ny Z Z Z Z Z<|z6<|aQ 7 Z<|qd (j:=p.dst.toNat) (r:=rows[p.dst.toNat]) Xe Z (qt hdl) (fun _=>.head)<|fun i61=>z6<|aQ 12 Z<|yq (k:=2) Zw type77 Z Z Z Z Z (fun _=>.head) (by rw[eP.av_len];rfl) (by decide) Z (by show (_+1)*16≤_;omega) (by show _+1≤_;omega)<|fun i66=>z6<|ad 13 Z (qp (j:=p.dst.toNat) Ya Yu Z Z (by omega) (by omega))<|yf<|yi (i:=14) Z (by kernel_rfl) (by kernel_rfl)<|qq (j:=p.dst.toNat) (r:=rows[p.dst.toNat]++[((k:Int),(j:Int))]) Yu Z Z (by omega) .head .head Z (eP.av_push rows[p.dst.toNat] ((k:Int),(j:Int))) (by simp)<|z6<|ym (by kernel_rfl) ?_
       exact ⟨(),wU,trivial,aH,trivial⟩
     ·rintro _ _
      refine aT<|aC Z Z<|aa Z<|z6 ?_
      exact ⟨j+1,lu,aK,⟨_,(.refl _),by rw[hsucc]⟩,hj2,by omega⟩
    ·have hd0:¬0≤p.dst:=by simpa using cd
     rw[if_neg hd0,w6] at hev
     refine zh<|aT<|aC Z Z<|aa Z<|z6 ?_
     exact ⟨j+1,lu,aK,⟨_,(.refl _),by rw[hev]⟩,hj2,by omega⟩
   ·have hjn:j=b.insts.length:=by simp at cj;omega
    subst hjn
    rw[qy]
    refine y5<|aT<|aC Z Z<|aa Z<|z6 ?_
    exact ⟨k+1,de,aK,⟨_,(.refl _),by rw[ga hk2,hbk,p6,qv]⟩,hk2,by omega⟩
 ·have hkn:k=f.blocks.length:=by simp at ck;omega
  subst hkn
  refine y5<|ai<|za (yw (v:=el _ _) Z)<|za (qi (v:=el _ _) Z)<|z6<|zi<|zn (x:=el _ _) Z ?_
  exact ⟨b13,rfl,rfl⟩
end Go.Proofs.YtdilpodccjlkgaaGreatDoor
namespace Go.Proofs.YtdilpodccjlkgaaGreatDoor
open Go.Proofs.Tryz
open Go.Proofs Go.Lib Go.Shelf Go.RowKit
variable {E:World}
set_option maxRecDepth 20000
theorem eE {f:ac} (h:bi f=true):bS f:=by
 unfold bi at h
 rw[wa,hZ] at h
 exact wd h.1
theorem IJ (l:List gB):((eP.av l++[AV.int .i64 (-1),AV.int .i64 0]).drop 0).take 2=[AV.int .i64 (l.head?.getD (-1,0)).1,AV.int .i64 (l.head?.getD (-1,0)).2]:=by cases l<;>rfl
theorem tJ {f:ac} (hf:small f) {v:Nat} (h:v<f.vars.length):(bu f v).length≤2000000:=by
 have h1:=eU (dG f f.blocks.length) h
 have h2:v<(cC f.vars.length (dG f f.blocks.length)).length:=by rw[cL];exact h
 have h3:=jW h2
 have h4:=hf.evs (Nat.le_refl _)
 rw[qt h2,mP] at h1
 rw[Option.some.inj h1] at h3
 omega
theorem kY (f:ac) (hf:small f) (hL:bz E) (ht:bi f=true):aM prog E 34 [.agg (bD f)] (.fro 2 ((cf f).map eP.row)):=by
 have hv:=hf.1
 refine zp func34 Z (by decide) Z<|ai<|y9 (cs:=_) Z Z Z<|za (jK Z)<|z6<|zd<|ai<|ae jv jj Z Z<|zg (pX f hf hL) Z<|aO Z Z<|z6<|yg Z (by rw[ht];rfl)<|zh<|ai<|za (jK Z)<|z6<|zd<|ai<|ae jv jj Z Z<|zu Z (zj (.rest _)) (oc f hf (eE ht)) ?_
 rintro r10 O10 ⟨b10,rfl,rfl⟩
 refine za (Gv.lenN Ya Z)<|aa Z<|z6<|gm (t:=3) (k:=2) (T:=77) Z<|fun i3=>zz (aS.nestTail .t1)<|zk<|y7 (γ:=Nat × Nat) [10,11] (fun g=>[(12,.int .i64 g.1),(3,.own g.2 g.1)]) (fun g=>[(g.2,.grow 2 77 (((cf f).take g.1).map eP.row).flatten),(0,yX eP 69 77 b10 (p8 f) g.1)]) (fun g=>g.1≤f.vars.length) (fun g=>f.vars.length - g.1) (0,i3) eh aH (qw _) ?_
 rintro ⟨k,i3⟩ hk
 try dsimp only at *
 refine ai<|ax Z Z<|z6<|zd<|zt Z (fun ck=>?_) (fun ck=>?_)
 ·have hk2:k<f.vars.length:=by simp at ck;omega
  have hml:=tJ hf hk2
  have hmt:(cf f)[k]?=some (aL f k):=n4 hk2
  have hkm:k<(cf f).length:=by rw[kX];exact hk2
  have hmk:(cf f)[k]=aL f k:=by rw[qt hkm] at hmt;exact Option.some.inj hmt
  refine zh<|zd<|zk<|ai<|za (qp (j:=k) Ya Yu Z Z Z (by omega))<|az.nestShift Xe Z (p9 hk2) .t1<|fun i15=>za (eu Z)<|z6<|ai<|za (gQ Z)<|za (y4 (cps:=[(0,[_]),(1,[_])]) (rs:=[_,_]) Dh Z Z Z)<|y3 (rows:=[[_,_]]) ny Z Z Z Z Z<|yq (k:=2) Zw type77 Z Z Z Z Z (fun _=>.head) (by rw[eP.av_len];rfl) (by decide) Z (by show (_+1)*16≤_;omega) (by show _+1≤_;omega)<|fun i19=>za (eu Z)<|z6<|aT<|za (gQ Z)<|za (gQ Z)<|za (Gv.idxO (j:=0) Zw Yt Z Z Z ⟨_,.head⟩ (by simp) (by show 0<_+1;omega))<|za (Gv.loadAG (l:=[_,_]) isAgg77 Yt Z ⟨_,.head⟩ (by simp) (by simp) (IJ _))<|y3 (rows:=[[_,_]]) ny Z Z Z Z Z<|yq (k:=2) Zw type77 Z Z Z Z Z (fun _=>.t1) (by rw[mB (k:=2) (fun _=>rfl),w7,Nat.min_eq_left (by omega)]) (by decide) Z (by show (_+1)*16≤_;omega) (by show _+1≤_;omega)<|fun i25=>za (eu Z)<|z6<|zz (aS.drop .head)<|aT<|aC Z Z<|aa Z<|z6 ?_
  exact ⟨(k+1,i25),eh,eh,⟨_,(.refl _),by rw[←ln (qu hkm),hmk];rfl⟩,hk2,by dsimp only;omega⟩
 ·have hkn:k=f.vars.length:=by simp at ck;omega
  subst hkn
  rw[show (cf f).take f.vars.length=cf f by rw[←kX f,qy]]
  refine y5<|ai<|za (gQ Z)<|za (eu Z)<|z6<|zi ?_
  repeat (first|refine gO ?_|refine fA ?_)
  refine y8 (aS.know (t:=2) (rows:=(cf f).map eP.row) Z .head (by first|(intro r hr;obtain ⟨x,_,rfl⟩:=List.mem_map.1 hr;rfl)|simp[da,gD,fg,bF,dk]) (by decide) (by rw[w1,kX]))<|zn (x:=.fro _ _) Z ?_
  rfl
theorem Bv (f:ac) (hf:small f) (hS:bS f):aM prog E 95 [.agg (bD f)] (.bool (lS f)):=by
 have hv:=hf.1
 refine zp func95 Z (by decide) Z<|ai<|y9 (cs:=_) Z Z Z<|ab Z<|z6<|zd<|ai<|ae jv jj Z Z<|zu Z (zj (.rest _)) (oc f hf hS) ?_
 rintro r6 O6 ⟨b6,rfl,rfl⟩
 refine za (Gv.lenN Ya Z)<|aa Z<|z6<|zz (aS.nestKnow (s:=6) Z .head (xu f))<|zk<|y7 (γ:=Nat) [1,6,7] (fun k=>[(8,.int .i64 k)]) (fun k=>[]) (fun k=>k≤f.vars.length∧(List.range k).all (iX f)=true) (fun k=>f.vars.length - k) 0 aK aH (⟨qw _,Z⟩) ?_
 rintro k ⟨hk,hall⟩
 refine ai<|ax Z Z<|z6<|zd<|zt Z (fun ck=>?_) (fun ck=>?_)
 ·have hk2:k<f.vars.length:=by simp at ck;omega
  refine zh<|zd<|zk<|ai<|aa Z<|za (bv k Ya Yu Z Z Z (p9 hk2))<|aI Xe Z<|ak Z<|za (ni Z)<|z6<|ai<|bc Z<|ap Zw Z<|aY Z Z<|aj Z<|zq (s:=16) Z (fun c1=>?_) (fun c1=>?_)
  ·have d1:1<(bu f k).length:=by have h0:(1:Int)<((bu f k).length:Int):=(by simpa using c1);omega
   refine z7 Z Z c1<|z7 Z Z c1<|z7 Z Z c1<|z7 Z Z c1<|zm Z Z<|zm Z Z<|zm Z Z<|zm Z Z<|zm Z Z<|z7 Z Z c1<|aw Z c1 Z<|z6<|yu Z Z<|ai<|ab Z<|z6<|zi<|zn (x:=.bool _) Z ?_
   rw[show lS f=false from dU hk2 (by unfold iX;simp[d1])]
  ·have d1:¬1<(bu f k).length:=by have h0:¬(1:Int)<((bu f k).length:Int):=(by simpa using c1);omega
   refine z8 Z Z c1<|bc Z<|z8 Z Z c1<|ap Zw Z<|z8 Z Z c1<|aY Z Z<|z8 Z Z c1<|aj Z<|zq (s:=20) Z (fun c2=>?_) (fun c2=>?_)
   ·have d2:bu f k≠[]:=by have h0:0<(bu f k).length:=(by simpa using c2);exact List.ne_nil_of_length_pos h0
    refine z8 Z Z c2<|aa Z<|z8 Z Z c2<|au jg Z j7 Z Z<|z8 Z Z c2<|aI je Z<|z8 Z Z c2<|ap wy Z<|z8 Z Z c2<|ax Z Z<|z8 Z Z c1<|aw Z c2 Z<|ay Z c1 Z<|z6<|zy Z (fun c3=>?_) (fun c3=>?_)
    ·have d3:k<f.params.length:=by simpa using c3
     refine ai<|ab Z<|z6<|zi<|zn (x:=.bool _) Z ?_
     rw[show lS f=false from dU hk2 (by unfold iX;simp[d2,d3,List.length_pos_iff])]
    ·have d3:¬k<f.params.length:=by simpa using c3
     refine zh<|aT<|aC Z Z<|aa Z<|z6 ?_
     exact ⟨k+1,de,aK,aH,⟨hk2,cK hall (by unfold iX;simp[d1,d3])⟩,by omega⟩
   ·have d2:bu f k=[]:=by simpa using c2
    refine z7 Z Z c2<|z7 Z Z c2<|z7 Z Z c2<|z7 Z Z c2<|z7 Z Z c2<|z8 Z Z c1<|ay Z c2 Z<|ay Z c1 Z<|z6<|yg Z Z<|zh<|aT<|aC Z Z<|aa Z<|z6 ?_
    exact ⟨k+1,de,aK,aH,⟨hk2,cK hall (by unfold iX;simp[d2])⟩,by omega⟩
 ·have hkn:k=f.vars.length:=by simp at ck;omega
  subst hkn
  refine y5<|ai<|ab Z<|z6<|zi<|zn (x:=.bool _) Z ?_
  rw[show lS f=true from hall]
end Go.Proofs.YtdilpodccjlkgaaGreatDoor
namespace Go.Proofs.YtdilpodccjlkgaaGreatDoor
open Go.Proofs.Tryz
open Go.Proofs Go.Lib Go.Shelf Go.RowKit
variable {E:World}
set_option maxRecDepth 20000
theorem oE {p:Int→Bool} {fn:FuncId} {c:List AV} (xs:List Int) (hl:xs.length≤281474976710656) (hp:∀x∈xs,aM prog E fn ([.int .i64 x]++c) (.bool (p x))) :
  aM prog E 162 [.fro 1 (xs.map da),.fn fn [] c] (.int .i64 (cE p xs 0)):=by
 refine zp func162 Z (by decide) Z<|ai<|ak Z<|z6<|zd<|ai<|bc Z<|ap wy Z<|aa Z<|z6<|zk<|y7 (γ:=Nat) [0,1,7] (fun k=>[(8,.int .i64 k)]) (fun k=>[]) (fun k=>k≤xs.length∧(xs.take k).all (fun x=>!p x)) (fun k=>xs.length - k) 0 aK aH (⟨qw _,Z⟩) ?_
 rintro k ⟨hk,hall⟩
 refine ai<|ax Z Z<|z6<|zd<|zt Z (fun ck=>?_) (fun ck=>?_)
 ·have hk2:k<xs.length:=by simp at ck;omega
  refine zh<|zd<|zk<|ai<|aa Z<|ak Z<|z6<|ai<|za (yw (v:=.fn _ _ _) Z)<|bc Z<|aa Z<|za (bv k wy wz Z Z Z (qt hk2))<|aA j6 Z<|az.callVP Z (hp _ (qx hk2)) Z<|z6<|zy Z (fun cp=>?_) (fun cp=>?_)
  ·refine ai<|aa Z<|ak Z<|z6<|zi<|zn (x:=.int _ _) Z ?_
   rw[bE p xs k hk hall,List.drop_eq_getElem_cons hk2,cE,if_pos cp]
  ·refine zh<|aT<|aC Z Z<|aa Z<|z6 ?_
   exact ⟨k+1,de,aK,aH,⟨hk2,by rw[qu hk2,List.all_append,hall];simp[cp]⟩,by omega⟩
 ·have hkn:k=xs.length:=by simp at ck;omega
  refine y5<|ai<|ak Z<|z6<|zi<|zn (x:=.int _ _) Z ?_
  rw[bE p xs k hk hall,hkn,List.drop_length,cE]
theorem mf {p:Int→Bool} {fn:FuncId} {c:List AV} (xs:List Int) (hl:xs.length≤281474976710656) (hp:∀x∈xs,aM prog E fn ([.int .i64 x]++c) (.bool (p x))) :
  aM prog E 131 [.fro 1 (xs.map da),.fn fn [] c] (.bool (xs.any p)):=by
 refine zp func131 Z (by decide) Z<|ai<|ab Z<|z6<|ai<|bc Z<|za (yw (v:=.fn _ _ _) Z)<|zg (oE xs hl hp) Z<|za (q5 Z Z)<|ab Z<|z6<|zi<|zn (x:=.bool _) Z ?_
 rw[eY]
theorem mg (f:ac) (hE:bV f) (hn:f.blocks.length≤1000) (m:gB) (b a:Int) (x y:AV):aM prog E 130 [mQ f x y,.agg [.int .i64 m.1,.int .i64 m.2],.int .i64 b,.int .i64 a] (.bool (fh f m b a)):=by
 refine zp func130 Z (by decide) Z<|ai<|y9 (cs:=_) Z Z Z<|ab Z<|z6<|zd<|zk<|ai<|au Zp Z wz Z Z<|aA j6 Z<|ax Z Z<|ab Z<|z6<|zt Z (fun c0=>?_) (fun c0=>?_)
 ·refine ai<|ab Z<|z6<|zi<|zn (x:=.bool _) Z ?_
  rw[fh,if_pos c0]
 ·refine ai<|au Zp Z wz Z Z<|aA j6 Z<|aa Z<|ao Z Z<|ab Z<|z6<|zy Z (fun c1=>?_) (fun c1=>?_)
  ·have d1:m.1=b:=by simpa using c1
   refine ai<|au Zp Z wz Z Z<|aA j6 Z<|aa Z<|ax Z Z<|ab Z<|z6<|zi<|zn (x:=.bool _) Z ?_
   rw[fh,if_neg c0,if_pos d1]
  ·have d1:¬m.1=b:=by simpa using c1
   refine zh<|ai<|za (fe Z)<|au Zp Z wz Z Z<|aA j6 Z<|aa Z<|zg (Bs f hE hn m.1 b x y) Z<|ab Z<|z6<|zi<|zn (x:=.bool _) Z ?_
   rw[fh,if_neg c0,if_neg d1]
theorem gc {f:ac} {v:Int} (h:bd f v=true):0≤v∧(cf f)[v.toNat]?=some (aL f v):=by
 have h1:0≤v∧v<f.vars.length:=by simpa [bd] using h
 refine ⟨h1.1,?_⟩
 have:=n4 (f:=f) (v:=v.toNat) (by omega)
 rwa [show ((v.toNat:Nat):Int)=v by omega] at this
theorem tK (f:ac) (hE:bV f) (hn:f.blocks.length≤1000) (i k:Nat) (v:Int) (hv:bd f v=true) (x y:AV) :
  aM prog E 132 ([.int .i64 v]++[.pf [mQ f x y],.pf [.fro 2 ((cf f).map eP.row)],.pf [.int .i64 i],.pf [.int .i64 k]]) (.bool (!fh f (aL f v) i k)):=by
 obtain ⟨hv0,hvg⟩:=gc hv
 refine zp func132 Z (by decide) Z<|ai<|ab Z<|z6<|zd<|zr (fun j=>false) (by kernel_rfl) Z (zj (.rest _))<|ad 0 Z (yv (c:=.pf _) isAgg68 Z)<|ad 1 Z (fa Xe Z)<|ad 2 Z (cD Z)<|ad 3 Z (bv v.toNat Zw Yt Z Z (by omega) hvg)<|ad 4 Z (yx isAgg77 Yt Z Z)<|ad 5 Z (cR j6 Z)<|ad 6 Z (cR j6 Z)<|aQ 7 Z<|zg (mg f hE hn (aL f v) i k x y) Z<|z6<|ad 8 Z (Gv.not Z)<|ad 9 Z (m9 Z)<|bJ<|zi<|zn (x:=.bool _) Z ?_
 rfl
theorem vA (x:aF):aM prog E 57 ([.agg (bF x)]++[]) (.bool (decide (x.op=25)||decide (x.op=26))):=by
 refine zp func57 Z (by decide) Z<|ai<|y9 (cs:=_) Z Z Z<|ab Z<|z6<|ai<|au j5 Z Z2 Z Z<|aA Z3 Z<|ao Z Z<|aj Z<|zq (s:=6) Z (fun c1=>?_) (fun c1=>?_)
 ·refine z7 Z Z c1<|z7 Z Z c1<|z7 Z Z c1<|aw Z c1 Z<|ab Z<|z6<|zi<|zn (x:=.bool _) Z ?_
  simp_all
 ·refine z8 Z Z c1<|au j5 Z Z2 Z Z<|z8 Z Z c1<|aA Z3 Z<|z8 Z Z c1<|ao Z Z<|ay Z c1 Z<|ab Z<|z6<|zi<|zn (x:=.bool _) Z ?_
  simp_all
theorem GO (b:aX) (hl:b.insts.length≤1000):aM prog E 56 [.fro 4 (b.insts.map bF),.fn 57 [] []] (.bool (b.insts.any fun x=>decide (x.op=25)||decide (x.op=26))):=g9 b.insts (by omega) (fun x _=>vA x)
set_option maxHeartbeats 4000000 in
theorem vB (f:ac) (hE:bV f) (hf:small f) (hS:bS f) (i:Nat) (hi:i<f.blocks.length) (x y:AV) :
  aM prog E 96 [.agg (bD f),mQ f x y,.fro 2 ((cf f).map eP.row),.int .i64 i] (.bool (HU f i)):=by
 have hn:=hf.2.2.1
 obtain ⟨b,hbk⟩:∃b,f.blocks[i]=b:=⟨_,rfl⟩
 have hget:f.blocks[i]?=some b:=by rw[qt hi,hbk]
 have hmem:b∈f.blocks:=hbk▸qx hi
 obtain ⟨hb0,hb1,hb2,hb3,hb4⟩:=hf.2.2.2.2 b hmem
 obtain ⟨hPh,hIn,hTm⟩:=hS.2.2.2.2.2 b hmem
 rw[qA hget]
 refine zp func96 Z (by decide) Z<|ai<|y9 (cs:=_) Z Z Z<|y9 (cs:=[_]) Z Z Z<|y9 (cs:=[_]) Z Z Z<|y9 (cs:=[_]) Z Z Z<|ab Z<|z6<|ai<|au jg Z Z8 Z Z<|aI Zh Z<|aA j6 Z<|za (bv i ju jy Z Z Z hget)<|ae Yo jy Z Z<|y6 (cs:=[.str ⟨#[]⟩,.raw (.slice none 0 0),.raw (.slice none 0 0),.int .i64 0,.int .i64 0,.int .i64 0,.int .i64 0]) Zl Z Z<|fun i9=>y1 jy Z Z Z Z Z Z .head Z<|ze (yc (t:=9) Z .head)<|z6<|zd<|ai<|au ji Z Yl Z Z<|aI Yv Z<|ap Z4 Z<|aa Z<|z6<|zk<|y7 (γ:=Nat) [4,5,6,7,9,23,24] (fun j=>[(25,.int .i64 j)]) (fun j=>[]) (fun j=>j≤b.phis.length∧(b.phis.take j).all (GM f)=true) (fun j=>b.phis.length - j) 0 aK aH (⟨qw _,Z⟩) ?_
 rintro j ⟨hj,hjall⟩
 refine ai<|ax Z Z<|z6<|zd<|zt Z (fun cj=>?_) (fun cj=>?_)
 ·have hj2:j<b.phis.length:=by simp at cj;omega
  obtain ⟨p,hp⟩:∃p,b.phis[j]=p:=⟨_,rfl⟩
  have hpm:p∈b.phis:=hp▸qx hj2
  obtain ⟨hpd,hpl,hpn,hpa,hpf⟩:=hPh p hpm
  have hpb:=hb3 p hpm
  refine zh<|zd<|zk<|ai<|za (bv j Z4 Zb Z Z Z (by rw[qt hj2,hp])) ?_
  refine ae X1 Zb Z Z<|y6 (cs:=[.int .i64 0,.raw (.slice none 0 0),.raw (.slice none 0 0)]) Yf Z Z<|fun i11=>y1 Zb Z Z Z Z Z Z .head Z<|ze (yc (t:=11) Z .head)<|z6<|ai<|au Z0 Z j7 Z Z<|aI je Z<|ap wy Z<|aa Z<|z6<|zk<|y7 (γ:=Nat) [4,5,6,7,9,11,23,24,25,30,31] (fun k=>[(32,.int .i64 k)]) (fun k=>[]) (fun k=>k≤p.args.length∧((p.args.zip p.from_).take k).all (fun q=>fh f (aL f q.1) q.2 (fE f q.2))=true) (fun k=>p.args.length - k) 0 aK aH (⟨qw _,Z⟩) ?_
  rintro k ⟨hk,hkall⟩
  refine ai<|ax Z Z<|z6<|zd<|zt Z (fun ck=>?_) (fun ck=>?_)
  ·have hk2:k<p.args.length:=by simp at ck;omega
   have hk3:k<p.from_.length:=by omega
   obtain ⟨v,hv⟩:∃v,p.args[k]=v:=⟨_,rfl⟩
   obtain ⟨c,hc⟩:∃c,p.from_[k]=c:=⟨_,rfl⟩
   obtain ⟨hv0,hvg⟩:=gc (List.all_eq_true.1 hpa v (hv▸qx hk2))
   have hcr:0≤c∧c<f.blocks.length:=by have:=List.all_eq_true.1 hpf c (hc▸qx hk3);simpa [eN] using this
   obtain ⟨d,hd⟩:∃d,f.blocks[c.toNat]'(by omega)=d:=⟨_,rfl⟩
   have hdg:f.blocks[c.toNat]?=some d:=by rw[qt (by omega),hd]
   have hla:fE f c=d.insts.length:=by unfold fE;rw[hdg];rfl
   have hz:k<(p.args.zip p.from_).length:=by rw[List.length_zip];omega
   have hzk:(p.args.zip p.from_)[k]=(v,c):=by rw[List.getElem_zip,hv,hc]
   refine zh<|zd<|zk<|ai<|aa Z<|za (bv k wy wz Z Z Z (by rw[qt hk2,hv])) ?_
   refine aA j6 Z<|ak Z<|ak Z<|z6<|ai<|au Z0 Z j7 Z Z<|aI je Z<|aa Z<|za (bv k wy wz Z Z Z (by rw[qt hk3,hc])) ?_
   refine aA j6 Z<|ak Z<|z6<|zd<|zr (fun j=>false) (by kernel_rfl) Z (zj (.rest _))<|ad 0 Z (yv (c:=.pf _) isAgg68 Z)<|ad 1 Z (fa Xe Z)<|ad 2 Z (cD Z)<|ad 3 Z (bv v.toNat Zw Yt Z Z (by omega) hvg)<|ad 4 Z (yx isAgg77 Yt Z Z)<|ad 5 Z (cD Z)<|ad 6 Z (bM jg Z Z8 Z Z)<|ad 7 Z (fa Zh Z)<|ad 8 Z (cD Z)<|ad 9 Z (bv c.toNat ju jy Z Z (by omega) hdg)<|ad 10 Z (bM ji Z Zq Z Z)<|ad 11 Z (fa Y4 Z)<|ad 12 Z (Gv.lenM jz Z)<|aQ 13 Z<|zg (mg f hE hn (aL f v) c d.insts.length x y) Z<|z6<|ad 14 Z (Gv.not Z)<|bJ<|zy Z (fun cq=>?_) (fun cq=>?_)
   ·have hq:fh f (aL f v) c (fE f c)=false:=by rw[hla];simpa using cq
    refine ai<|ab Z<|z6<|zi<|zn (x:=.bool _) Z ?_
    rw[rP,show b.phis.all (GM f)=false from Bool.eq_false_iff.2 (dh hj2 (by rw[hp];unfold GM;exact Bool.eq_false_iff.2 (dh hz (by rw[hzk];exact hq))))];rfl
   ·have hq:fh f (aL f v) c (fE f c)=true:=by rw[hla];simpa using cq
    refine zh<|aT<|aC Z Z<|aa Z<|z6 ?_
    exact ⟨k+1,pe,aK,aH,⟨hk2,bI hz hkall (by rw[hzk];exact hq)⟩,by omega⟩
  ·have hkn:k=p.args.length:=by simp at ck;omega
   have hzl:(p.args.zip p.from_).length=p.args.length:=by rw[List.length_zip];omega
   rw[hkn,←hzl,qy] at hkall
   refine y5<|aT<|aC Z Z<|aa Z<|z6 ?_
   exact ⟨j+1,lu,aK,aH,⟨hj2,bI hj2 hjall (by rw[hp];exact hkall)⟩,by omega⟩
 ·have hjn:j=b.phis.length:=by simp at cj;omega
  subst hjn
  rw[qy] at hjall
  refine y5<|zd<|ai<|au ji Z Zq Z Z<|aI Y4 Z<|ap jz Z<|aa Z<|z6<|zk<|y7 (γ:=Nat) [5,6,7,9,60,61] (fun k=>[(62,.int .i64 k)]) (fun k=>[]) (fun k=>k≤b.insts.length∧((b.insts.zipIdx).take k).all (Dd f i)=true) (fun k=>b.insts.length - k) 0 aK aH (⟨qw _,Z⟩) ?_
  rintro k ⟨hk,hkall⟩
  refine ai<|ax Z Z<|z6<|zd<|zt Z (fun ck=>?_) (fun ck=>?_)
  ·have hk2:k<b.insts.length:=by simp at ck;omega
   obtain ⟨z,hzk⟩:∃z,b.insts[k]=z:=⟨_,rfl⟩
   have hzm:z∈b.insts:=hzk▸qx hk2
   have hI:=gN (hIn z hzm)
   have hzl:=hb4 z hzm
   have hzi:k<b.insts.zipIdx.length:=by simp;exact hk2
   have hze:b.insts.zipIdx[k]=(z,k):=by simp[hzk]
   refine zh<|zd<|zk<|ai<|aa Z<|za (bv k jz jx Z Z Z (by rw[qt hk2,hzk])) ?_
   refine ae Y0 jx Z Z<|y6 (cs:=[.int .i64 0]) Zv Z Z<|fun i15=>y6 (cs:=[.int .i64 0,.int .i64 0,.raw (.slice none 0 0),.int .i64 0]) Zf Z Z<|fun i16=>y1 wz Z Z Z Z Z Z .t1 Z<|ze (yc (t:=15) Z .t1)<|y1 jx Z Z Z Z Z Z .head Z<|ze (yc (t:=16) Z .head)<|z6<|ai<|au j5 Z j7 Z Z<|aI je Z<|za (Gv.func Z Z)<|zg (mf z.args (by omega) (fun v hv=>tK f hE hn i k v (hI.args v hv) x y)) Z<|z6<|zy Z (fun cq=>?_) (fun cq=>?_)
   ·have hq:Dd f i (z,k)=false:=by
     unfold Dd
     rw[Bool.eq_false_iff];intro h
     obtain ⟨v,hv1,hv2⟩:=List.any_eq_true.1 (show (z.args.any fun v=>!fh f (aL f v) i k)=true by simpa using cq)
     have:=List.all_eq_true.1 h v hv1
     rw[this] at hv2;cases hv2
    refine ai<|ab Z<|z6<|zi<|zn (x:=.bool _) Z ?_
    rw[rP,hjall,show b.insts.zipIdx.all (Dd f i)=false from Bool.eq_false_iff.2 (dh hzi (by rw[hze];exact hq))];rfl
   ·have hq:Dd f i (z,k)=true:=by
     unfold Dd
     rw[wb];intro v hv
     have h0:(z.args.any fun v=>!fh f (aL f v) i k)=false:=by simpa using cq
     have:=List.any_eq_false.1 h0 v hv
     simpa using this
    refine zh<|aT<|aC Z Z<|aa Z<|z6 ?_
    exact ⟨k+1,yV,aK,aH,⟨hk2,bI hzi hkall (by rw[hze];exact hq)⟩,by omega⟩
  ·have hkn:k=b.insts.length:=by simp at ck;omega
   rw[hkn,show b.insts.length=b.insts.zipIdx.length by simp,qy] at hkall
   refine y5<|zd<|zr (fun j=>false) (by kernel_rfl) Z (zj (.rest _))<|ad 0 Z (bM ji Z Zo Z Z)<|ad 1 Z (bM jf Z Y7 Z Z)<|ad 2 Z (cR Yh Z)<|ad 3 Z (Gv.eqlI Z Z)<|ad 4 Z (nT Z)<|ql (s:=76) Z (fun c0=>?_) (fun c0=>?_)
   ·have d0:b.term.kind=0:=by simpa using c0
    refine b5 5 Z Z Z c0<|b5 6 Z Z Z c0<|b5 7 Z Z Z c0<|b5 8 Z Z Z c0<|b5 9 Z Z Z c0<|b5 10 Z Z Z c0<|b5 11 Z Z Z c0<|b5 12 Z Z Z c0<|b5 13 Z Z Z c0<|b5 14 Z Z Z c0<|b5 15 Z Z Z c0<|b5 16 Z Z Z c0<|ad 17 Z (uo Z c0 Z)<|ad 18 Z (m9 Z)<|bJ<|zi<|zn (x:=.bool _) Z ?_
    rw[rP,hjall,hkall,Hq,d0];rfl
   ·have d0:¬b.term.kind=0:=by simpa using c0
    obtain ⟨hv0,hvg⟩:=gc (ia hTm d0)
    refine cO 5 Z Z Z c0 (yv (c:=.pf _) isAgg68 Z)<|cO 6 Z Z Z c0 (fa Xe Z)<|cO 7 Z Z Z c0 (bM ji Z Zo Z Z)<|cO 8 Z Z Z c0 (bM jf Z wz Z Z)<|cO 9 Z Z Z c0 (cR j6 Z)<|cO 10 Z Z Z c0 (bv b.term.var.toNat Zw Yt Z Z (by omega) hvg)<|cO 11 Z Z Z c0 (yx isAgg77 Yt Z Z)<|cO 12 Z Z Z c0 (cR j6 Z)<|cO 13 Z Z Z c0 (bM ji Z Zq Z Z)<|cO 14 Z Z Z c0 (fa Y4 Z)<|cO 15 Z Z Z c0 (Gv.lenM jz Z)<|aQ 16 Z<|z8 Z Z c0<|zg (mg f hE hn (aL f b.term.var) i b.insts.length x y) Z<|z6<|ad 17 Z (si Z c0 Z)<|ad 18 Z (m9 Z)<|bJ<|zi<|zn (x:=.bool _) Z ?_
    rw[rP,hjall,hkall,Hq,w9 d0];rfl
theorem kZ (f:ac) (hf:small f) (hL:bz E):aM prog E 55 [.agg (bD f)] (.int .i64 (if (bi f&&dH f)=true then 0 else 3)):=by
 have hn:=hf.2.2.1
 refine zp func55 Z (by decide) Z<|ai<|y9 (cs:=_) Z Z Z<|ak Z<|z6<|zd<|ai<|ae jv jj Z Z<|zg (tG f hf hL) Z<|aO Z Z<|aj Z<|zq (s:=10) Z (fun c1=>?_) (fun c1=>?_)
 ·have d1:(bi f&&di f)=false:=by
   cases h:(bi f&&di f) with
   |false=>rfl
   |true=>rw[h] at c1;simp at c1
  refine z7 Z Z c1<|z7 Z Z c1<|z7 Z Z c1<|aw Z c1 Z<|aj Z<|z7 Z Z Z<|z7 Z Z Z<|z7 Z Z Z<|aw Z Z Z<|z6<|yu Z Z<|ai<|ak Z<|z6<|zi<|zn (x:=.int _ _) Z ?_
  rw[show (bi f&&dH f)=false by unfold dH;cases h:bi f<;>simp_all];rfl
 ·have d1:(bi f&&di f)=true:=by
   cases h:(bi f&&di f) with
   |true=>rfl
   |false=>rw[h] at c1;simp at c1
  have ht:bi f=true:=by simp at d1;exact d1.1
  have hj:di f=true:=by simp at d1;exact d1.2
  have hE:=dQ ht
  have hS:=eE ht
  refine z8 Z Z c1<|ae jv jj Z Z<|z8 Z Z c1<|zg (vo f hf hL ht) Z<|z8 Z Z c1<|zg (qB (f9 (ah f) f.blocks.length) false (by rw[pY];omega)) Z<|ay Z c1 Z<|aj Z<|zq (s:=15) Z (fun c2=>?_) (fun c2=>?_)
  ·refine z7 Z Z c2<|z7 Z Z c2<|z7 Z Z c2<|aw Z c2 Z<|z6<|yu Z Z<|ai<|ak Z<|z6<|zi<|zn (x:=.int _ _) Z ?_
   rw[show dH f=false by unfold dH;simp_all];simp
  ·refine z8 Z Z c2<|ae jv jj Z Z<|z8 Z Z c2<|zg (Bv f hf hS) Z<|z8 Z Z c2<|aD Z<|ay Z c2 Z<|z6<|zy Z (fun c3=>?_) (fun c3=>?_)
   ·refine ai<|ak Z<|z6<|zi<|zn (x:=.int _ _) Z ?_
    rw[show dH f=false by unfold dH;simp_all];simp
   ·refine zh<|ai<|ae jv jj Z Z<|zg (vz f hf hL ht) Z<|za (kw Z)<|za (qa (v:=.pf _) Z Z)<|za (jL Z Z)<|za (qi (v:=.pf _) Z)<|ak Z<|z6<|zd<|ai<|aa Z<|aO Z Z<|z6<|yg Z Z<|zh<|ai<|ae jv jj Z Z<|zg (kY f hf hL ht) Z<|za (ni Z)<|z6<|zd<|ai<|au jg Z Z8 Z Z<|aI Zh Z<|ap ju Z<|aa Z<|z6<|zk<|y7 (γ:=Nat) [1,3,5,32] (fun k=>[(33,.int .i64 k)]) (fun k=>[]) (fun k=>k≤f.blocks.length∧(List.range k).all (HU f)=true) (fun k=>f.blocks.length - k) 0 aK aH (⟨qw _,Z⟩) ?_
    rintro k ⟨hk,hall⟩
    refine ai<|ax Z Z<|z6<|zd<|zt Z (fun ck=>?_) (fun ck=>?_)
    ·have hk2:k<f.blocks.length:=by simp at ck;omega
     refine zh<|zd<|zk<|ai<|aa Z<|ak Z<|z6<|ai<|ae jv jj Z Z<|za (fe Z)<|bc Z<|aa Z<|zg (vB f hE hf hS k hk2 (lO eI (ob f)) .any) Z<|aD Z<|z6<|zy Z (fun cq=>?_) (fun cq=>?_)
     ·refine ai<|ak Z<|z6<|zi<|zn (x:=.int _ _) Z ?_
      rw[show dH f=false by unfold dH;rw[show xv f=false from dU hk2 (by simpa using cq)];simp];simp
     ·refine zh<|aT<|aC Z Z<|aa Z<|z6 ?_
      exact ⟨k+1,gn,aK,aH,⟨hk2,cK hall (by simpa using cq)⟩,by omega⟩
    ·have hkn:k=f.blocks.length:=by simp at ck;omega
     subst hkn
     refine y5<|ai<|ak Z<|z6<|zi<|zn (x:=.int _ _) Z ?_
     rw[ht,show dH f=true by unfold dH;rw[show xv f=true from hall];simp_all];rfl
def jZ (f:ac):Bool:=f.blocks.all fun b=>!(b.insts.any fun x=>decide (x.op=25)||decide (x.op=26))
theorem qH (f:ac) (hf:small f) (hL:bz E):aM prog E 32 [.agg (bD f)] (.int .i64 (if (bi f&&(dH f&&jZ f))=true then 0 else 3)):=by
 have hn:=hf.2.2.1
 refine zp func32 Z (by decide) Z<|ai<|y9 (cs:=_) Z Z Z<|ak Z<|z6<|zd<|ai<|ae jv jj Z Z<|zg (kZ f hf hL) Z<|ak Z<|z6<|ai<|aa Z<|aO Z Z<|z6<|zy Z (fun c1=>?_) (fun c1=>?_)
 ·have d1:(bi f&&dH f)=false:=by
   cases h:(bi f&&dH f) with
   |false=>rfl
   |true=>rw[h] at c1;simp at c1
  refine ai<|aa Z<|ak Z<|z6<|zi<|zn (x:=.int _ _) Z ?_
  rw[d1,show (bi f&&(dH f&&jZ f))=false by cases h:bi f<;>simp_all]
 ·have d1:(bi f&&dH f)=true:=by
   cases h:(bi f&&dH f) with
   |true=>rfl
   |false=>rw[h] at c1;simp at c1
  have ht:bi f=true:=by simp at d1;exact d1.1
  have hs:dH f=true:=by simp at d1;exact d1.2
  refine zh<|zd<|ai<|au jg Z Z8 Z Z<|aI Zh Z<|ap ju Z<|aa Z<|z6<|zk<|y7 (γ:=Nat) [12,13] (fun k=>[(14,.int .i64 k)]) (fun k=>[]) (fun k=>k≤f.blocks.length∧(f.blocks.take k).all (fun b=>!(b.insts.any fun x=>decide (x.op=25)||decide (x.op=26)))=true) (fun k=>f.blocks.length - k) 0 aK aH (⟨qw _,Z⟩) ?_
  rintro k ⟨hk,hall⟩
  refine ai<|ax Z Z<|z6<|zd<|zt Z (fun ck=>?_) (fun ck=>?_)
  ·have hk2:k<f.blocks.length:=by simp at ck;omega
   obtain ⟨b,hbk⟩:∃b,f.blocks[k]=b:=⟨_,rfl⟩
   have hget:f.blocks[k]?=some b:=by rw[qt hk2,hbk]
   have hb2:=(hf.2.2.2.2 b (hbk▸qx hk2)).2.2.1
   refine zh<|zd<|zk<|ai<|za (bv k ju jy Z Z Z hget)<|ae Yo jy Z Z<|y6 (cs:=[.str ⟨#[]⟩,.raw (.slice none 0 0),.raw (.slice none 0 0),.int .i64 0,.int .i64 0,.int .i64 0,.int .i64 0]) Zl Z Z<|fun i5=>y1 jy Z Z Z Z Z Z .head Z<|ze (yc (t:=5) Z .head)<|z6<|ai<|au ji Z Zq Z Z<|aI Y4 Z<|zg (GO b hb2) Z<|z6<|zy Z (fun cq=>?_) (fun cq=>?_)
   ·refine ai<|ak Z<|z6<|zi<|zn (x:=.int _ _) Z ?_
    rw[show jZ f=false from Bool.eq_false_iff.2 (dh hk2 (by rw[hbk];simpa using cq))];simp
   ·refine zh<|aT<|aC Z Z<|aa Z<|z6 ?_
    exact ⟨k+1,eh,aK,aH,⟨hk2,bI hk2 hall (by rw[hbk];simpa using cq)⟩,by omega⟩
  ·have hkn:k=f.blocks.length:=by simp at ck;omega
   subst hkn
   rw[qy] at hall
   refine y5<|ai<|ak Z<|z6<|zi<|zn (x:=.int _ _) Z ?_
   rw[ht,hs,show jZ f=true from hall];rfl
end Go.Proofs.YtdilpodccjlkgaaGreatDoor
namespace Go.Proofs.YtdilpodccjlkgaaGreatDoor
open Go.Proofs.Tryz
structure FrS (E:Int→List Int) (a shut:Int) (n:Nat) (out:List Bool):Prop where
 len:out.length=n
 sound:∀b:Nat,out[b]?=some true→gY E a shut b
def xD (a:Int) (out:List Bool) (shut x:Int):Prop:=x≠shut∧(x=a∨gb out x=true)
instance (a:Int) (out:List Bool) (shut x:Int):Decidable (xD a out shut x):=by unfold xD;infer_instance
def Bw (E:Int→List Int) (a shut:Int) (out:List Bool) (k:Nat):Prop:=∀x:Nat,x<k→xD a out shut x→∀y:Nat,(y:Int)∈E x→(y:Int)≠shut→gb out y=true
def HW (E:Int→List Int) (a shut:Int) (out:List Bool) (x j:Nat):Prop:=xD a out shut x→∀y:Nat,y<j→(y:Int)∈E x→(y:Int)≠shut→gb out y=true
def mh (out:List Bool):Nat:=(out.filter fun b=>!b).length
theorem Di (out:List Bool) (k:Nat):gb out (k:Int)=(out[k]?).getD false:=rfl
theorem lF {out:List Bool} {k:Nat} (h:k<out.length):out[k]?=some (gb out k):=by
 rw[Di,qt h];rfl
theorem FrS.begin (E:Int→List Int) (a shut:Int) (n:Nat):FrS E a shut n (List.replicate n false):=⟨by simp,fun b h=>by
 rw[List.getElem?_replicate] at h;split at h<;>simp at h⟩
theorem FrS.set {E:Int→List Int} {a shut:Int} {n:Nat} {out:List Bool} (h:FrS E a shut n out) {x y:Nat} (hx:xD a out shut x) (ha:a≠shut∨(x:Int)≠a) (he:(y:Int)∈E x) (hy:(y:Int)≠shut):FrS E a shut n (out.set y true):=by
 refine ⟨by rw[List.length_set];exact h.len,fun b hb=>?_⟩
 by_cases e:b=y
 ·subst e
  refine gY.step (x:=x) ?_ he hy
  rcases hx.2 with e|hg
  ·left
   refine ⟨e,?_⟩
   rw[←e];exact hx.1
  ·right
   by_cases hlt:x<out.length
   ·exact h.sound x (by rw[lF hlt,hg])
   ·rw[Di,List.getElem?_eq_none (by omega)] at hg;simp at hg
 ·rw[List.getElem?_set_ne (fun e2=>e e2.symm)] at hb;exact h.sound b hb
theorem xE {out:List Bool} {y:Nat} (hy:y<out.length) (h:gb out y=false):mh (out.set y true)+1=mh out:=jR out y (by rw[lF hy,h])
structure HX (E:Int→List Int) (a shut:Int) (n:Nat) (o0 out:List Bool) (again:Bool):Prop extends FrS E a shut n out where
 less:mh out≤mh o0
 more:again=true→mh out<mh o0
 same:again=false→out=o0
theorem HX.hit {E:Int→List Int} {a shut:Int} {n:Nat} {o0 out:List Bool} {again:Bool} (h:HX E a shut n o0 out again) {x y:Nat} (hx:xD a out shut x) (he:(y:Int)∈E x) (hy:(y:Int)≠shut) (hlt:y<n) (hf:gb out y=false):HX E a shut n o0 (out.set y true) true:=by
 have h1:=xE (out:=out) (y:=y) (by rw[h.len];exact hlt) hf
 have h2:=h.less
 exact { h.toFrS.set hx (by
      by_cases e:(x:Int)=a
      ·left;rw[←e];exact hx.1
      ·exact .inr e) he hy with
     less:=by omega
     more:=fun _=>by omega
     same:=fun e=>by cases e }
theorem FrS.all {E:Int→List Int} {a shut:Int} {n:Nat} {out:List Bool} (hE:fS E n) (ha:a=a∧0≤a∧a<n) (h:FrS E a shut n out) (hc:Bw E a shut out n) (b:Nat) (hb:b<n):gb out b=true↔gY E a shut b:=by
 constructor
 ·intro hg;exact h.sound b (by rw[lF (by rw[h.len];exact hb),hg])
 ·intro hf
  have:=gY.closed (out:=fun x:Int=>0≤x∧x<n∧gb out x=true) (fun x y h1 h2 h3 h4=>by
   have hxr:0≤x∧x<n:=by
    rcases h2 with e|h2
    ·rw[e];exact ha.2
    ·exact ⟨h2.1,h2.2.1⟩
   have hy:=hE.rng x hxr.1 hxr.2 y h3
   have e1:((x.toNat:Nat):Int)=x:=wc hxr.1
   have e2:((y.toNat:Nat):Int)=y:=wc hy.1
   refine ⟨hy.1,hy.2,?_⟩
   have:=hc x.toNat (by omega) ⟨by rw[e1];exact h1,by
    rw[e1]
    rcases h2 with e|h2
    ·exact .inl e
    ·exact .inr h2.2.2⟩ y.toNat (by rw[e1,e2];exact h3) (by rw[e2];exact h4)
   rwa [e2] at this) hf
  exact this.2.2
open Classical in
noncomputable def k6 (E:Int→List Int) (n:Nat) (a shut:Int):List Bool:=(bw n).map fun b=>decide (gY E a shut b)
open Classical in
theorem FrS.eq {E:Int→List Int} {a shut:Int} {n:Nat} {out:List Bool} (hE:fS E n) (ha:0≤a∧a<n) (h:FrS E a shut n out) (hc:Bw E a shut out n):out=k6 E n a shut:=by
 refine List.ext_getElem (by rw[h.len];unfold k6;rw[w1,bX]) fun k h1 h2=>?_
 have hk:k<n:=by rw[h.len] at h1;exact h1
 have:=h.all hE ⟨rfl,ha⟩ hc k hk
 have e1:out[k]=gb out k:=by have:=lF h1;rw[qt h1] at this;simpa using this
 have e2:(k6 E n a shut)[k]=decide (gY E a shut k):=by
  have h3:(k6 E n a shut)[k]?=some (decide (gY E a shut k)):=by unfold k6;rw[w2,eo hk];rfl
  rw[qt h2] at h3
  simpa using h3
 rw[e1,e2]
 by_cases hf:gY E a shut k
 ·rw[w8 hf];exact this.2 hf
 ·rw[w9 hf];exact Bool.eq_false_iff.2 fun e=>hf (this.1 e)
open Classical in
noncomputable def nz (E:Int→List Int) (n:Nat) (shut:Int):List Bool:=(bw n).map fun b=>decide (jM E (fun x=>x≠shut) 0 b)
open Classical in
theorem Bx {E:Int→List Int} {n k:Nat} {a shut:Int} (hk:k<n):(k6 E n a shut)[k]?=some (decide (gY E a shut k)):=by unfold k6;rw[w2,eo hk];rfl
open Classical in
theorem mi {E:Int→List Int} {n k:Nat} {shut:Int} (hk:k<n):(nz E n shut)[k]?=some (decide (jM E (fun x=>x≠shut) 0 k)):=by unfold nz;rw[w2,eo hk];rfl
theorem lG (E:Int→List Int) (n:Nat) (a shut:Int):(k6 E n a shut).length=n:=by unfold k6;rw[w1,bX]
theorem qI (E:Int→List Int) (n:Nat) (shut:Int):(nz E n shut).length=n:=by unfold nz;rw[w1,bX]
open Classical in
theorem Bz {E:Int→List Int} {n:Nat} (shut:Int):(k6 E n 0 shut).set 0 (decide (shut≠0))=nz E n shut:=by
 refine List.ext_getElem? fun k=>?_
 by_cases hk:k<n
 ·rw[mi hk]
  have hiff:=CS (E:=E) (shut:=shut) (b:=(k:Int))
  by_cases e:k=0
  ·subst e
   rw[List.getElem?_set_self (by rw[lG];exact hk)]
   refine congrArg some (Bool.eq_iff_iff.2 ?_)
   rw[decide_eq_true_iff,decide_eq_true_iff,←hiff]
   constructor
   ·intro h;exact .inl ⟨rfl,h⟩
   ·rintro (⟨_,h⟩|⟨h,_⟩)
    ·exact h
    ·exact absurd rfl h
  ·rw[List.getElem?_set_ne (fun e2=>e e2.symm),Bx hk]
   refine congrArg some (Bool.eq_iff_iff.2 ?_)
   rw[decide_eq_true_iff,decide_eq_true_iff,←hiff]
   constructor
   ·intro h;exact .inr ⟨by omega,h⟩
   ·rintro (⟨h,_⟩|⟨_,h⟩)
    ·omega
    ·exact h
 ·rw[List.getElem?_eq_none (by rw[List.length_set,lG];omega),List.getElem?_eq_none (by rw[qI];omega)]
end Go.Proofs.YtdilpodccjlkgaaGreatDoor
namespace Go.Proofs.YtdilpodccjlkgaaGreatDoor
open Go.Proofs.Tryz
def ky (v:Nat) (ev:List (Int × gB)):Nat:=(ev.filter fun e=>decide (e.1=(v:Int))).length
theorem lH (v:Nat) (ev:List (Int × gB)) (d:Int) (x:gB):ky v (ev++[(d,x)])=ky v ev+if d=(v:Int) then 1 else 0:=by
 unfold ky;rw[List.filter_append,qz]
 by_cases h:d=(v:Int)<;>simp[h]
theorem vC (f:ac) (v:Nat):(bu f v).length=ky v (dG f f.blocks.length):=by rw[←mP,w1];rfl
theorem zV (v:Nat) (ev:List (Int × gB)):ky v ev≤ev.length:=List.length_filter_le _ _
theorem qJ {f:ac}:∀{n k:Nat},k≤n→n≤f.blocks.length→dG f k <+: dG f n
 |0,k,h,_=>by rw[show k=0 by omega];exact List.prefix_refl _
 |n+1,k,h,hn=>by
  by_cases e:k=n+1
  ·rw[e];exact List.prefix_refl _
  ·rw[ga (by omega)]
   exact (qJ (by omega) (by omega)).trans (List.prefix_append _ _)
theorem Dj (i:Nat) (ps:List dF) (j:Nat):dJ i (ps.take j) <+: dJ i ps:=by
 unfold dJ
 obtain ⟨r,hr⟩:=List.take_prefix j ps
 exact ⟨r.map fun p=>(p.dst,((i:Int),-1)),by rw[←w5,hr]⟩
theorem vD (i:Nat) (xs:List aF):∀(m j:Nat),j≤m→m≤xs.length→gt i (xs.take j) <+: gt i (xs.take m)
 |0,j,h,_=>by rw[show j=0 by omega];exact List.prefix_refl _
 |m+1,j,h,hm=>by
  by_cases e:j=m+1
  ·rw[e];exact List.prefix_refl _
  ·rw[iW i (by omega)]
   exact (vD i xs m j (by omega) (by omega)).trans (List.prefix_append _ _)
theorem E9 {f:ac} {k j:Nat} {b:aX} (hk:k<f.blocks.length) (hb:f.blocks[k]=b) (hj:j<b.phis.length):(dG f k++dJ k (b.phis.take j))++[(b.phis[j].dst,((k:Int),(-1:Int)))] <+: dG f f.blocks.length:=by
 refine List.IsPrefix.trans ?_ (qJ (show k+1≤f.blocks.length by omega) (Nat.le_refl _))
 rw[ga hk,hb,qv,←lE k hj,p6]
 exact (List.prefix_append_right_inj _).2 ((Dj k b.phis (j+1)).trans (List.prefix_append _ _))
theorem Dl {f:ac} {k j:Nat} {b:aX} (hk:k<f.blocks.length) (hb:f.blocks[k]=b) (hj:j<b.insts.length) (h0:0≤b.insts[j].dst):(dG f k++dJ k b.phis++gt k (b.insts.take j))++[(b.insts[j].dst,((k:Int),(j:Int)))] <+: dG f f.blocks.length:=by
 refine List.IsPrefix.trans ?_ (qJ (show k+1≤f.blocks.length by omega) (Nat.le_refl _))
 have h:=iW k hj
 rw[if_pos h0] at h
 rw[ga hk,hb,qv,←h,p6,qv]
 have h2:=vD k b.insts b.insts.length (j+1) (by omega) (Nat.le_refl _)
 rw[qy] at h2
 exact (List.prefix_append_right_inj _).2 ((List.prefix_append_right_inj _).2 h2)
theorem sO {f:ac} {v:Nat} {pre:List (Int × gB)} {x:gB} (hp:pre++[((v:Int),x)] <+: dG f f.blocks.length) (h0:ky v pre=0):aL f v=x:=by
 obtain ⟨r,hr⟩:=hp
 have h1:pre.filter (fun e=>decide (e.1=(v:Int)))=[]:=List.eq_nil_of_length_eq_zero h0
 unfold aL
 rw[←mP,←hr,List.filter_append,List.filter_append,h1]
 simp
theorem xF {f:ac} {v:Nat} (h0:ky v (dG f f.blocks.length)=0):aL f v=(-1,0):=by
 unfold aL
 rw[←mP,List.eq_nil_of_length_eq_zero h0]
 rfl
noncomputable section
def eJ (f:ac) (m:gB) (b at_:Int):Bool:=by
 classical exact if m.1<0 then true else if m.1=b then decide (m.2<at_) else !decide (jM (ah f) (fun x=>x≠m.1) 0 b)
def Hr (f:ac) (p:dF):Bool:=(p.args.zip p.from_).all fun q=>eJ f (aL f q.1) q.2 (fE f q.2)
def Hs (f:ac) (i:Nat) (x:aF × Nat):Bool:=x.1.args.all fun v=>eJ f (aL f v) i x.2
def Ht (f:ac) (i:Nat) (b:aX):Bool:=decide (b.term.kind=0)||eJ f (aL f b.term.var) i b.insts.length
def oF (f:ac) (i:Nat) (b:aX):Bool:=by
 classical exact decide (oA (ah f) (i:Int))&&(b.phis.all (Hr f)&&(b.insts.zipIdx.all (Hs f i)&&Ht f i b))
def Hu (f:ac) (i:Nat):Bool:=((f.blocks[i]?).map (oF f i)).getD true
def iY (f:ac):Bool:=di f&&(lS f&&(List.range f.blocks.length).all (Hu f))
end
theorem nA {f:ac} {i:Nat} {b:aX} (h:f.blocks[i]?=some b):Hu f i=oF f i b:=by unfold Hu;rw[h];rfl
theorem nB {f:ac} (hE:bV f) (m:gB) {b:Int} (at_:Int) (hb:oA (ah f) b):eJ f m b at_=fh f m b at_:=by
 rw[w3,ib hE]
 unfold eJ cY
 by_cases h0:m.1<0
 ·rw[if_pos h0];simp[h0]
 ·rw[if_neg h0]
  by_cases h1:m.1=b
  ·rw[if_pos h1];simp[h1];omega
  ·rw[if_neg h1]
   simp only[Bool.not_eq_true',decide_eq_false_iff_not]
   constructor
   ·intro h;exact .inr (.inr ⟨by omega,h1,hb,h⟩)
   ·rintro (h|h|h)
    ·exact absurd h h0
    ·exact absurd h.1 h1
    ·exact h.2.2.2
theorem Dm {f:ac} (hE:bV f) (hfr:∀b∈f.blocks,∀p∈b.phis,∀c∈p.from_,0≤c∧c<f.blocks.length):iY f=dH f:=by
 unfold iY dH
 by_cases hA:CU f
 ·have hall:(f9 (ah f) f.blocks.length).contains false=false:=(me hE).2 hA
  rw[hall]
  have hrch:∀c:Int,0≤c→c<f.blocks.length→oA (ah f) c:=fun c h0 h1=>by
   have:=hA c.toNat (by omega)
   rwa [show ((c.toNat:Nat):Int)=c by omega] at this
  have:(List.range f.blocks.length).all (Hu f)=xv f:=by
   unfold xv
   rw[w3,wb,wb]
   refine forall_congr' fun i=>?_
   constructor
   all_goals
    intro h hi
    have hi2:=List.mem_range.1 hi
    have h:=h hi
    have hget:f.blocks[i]?=some f.blocks[i]:=qt hi2
    have hmem:=qx hi2
    have e1:f.blocks[i].phis.all (Hr f)=f.blocks[i].phis.all (GM f):=by
     rw[w3,wb,wb]
     refine forall_congr' fun p=>forall_congr' fun hp=>?_
     unfold Hr GM
     rw[wb,wb]
     refine forall_congr' fun q=>forall_congr' fun hq=>?_
     have hc:=hfr _ hmem p hp q.2 (List.of_mem_zip hq).2
     rw[nB hE _ _ (hrch q.2 hc.1 hc.2)]
    have e2:f.blocks[i].insts.zipIdx.all (Hs f i)=f.blocks[i].insts.zipIdx.all (Dd f i):=by
     rw[w3,wb,wb]
     refine forall_congr' fun x=>forall_congr' fun _=>?_
     unfold Hs Dd
     rw[wb,wb]
     refine forall_congr' fun v=>forall_congr' fun _=>?_
     rw[nB hE _ _ (hA i hi2)]
    have e3:Ht f i f.blocks[i]=Hq f i f.blocks[i]:=by unfold Ht Hq;rw[nB hE _ _ (hA i hi2)]
    have e:oF f i f.blocks[i]=rP f i f.blocks[i]:=by
     unfold oF rP;rw[e1,e2,e3];simp[hA i hi2,Bool.and_assoc]
    first
     |(rw[nA hget,e] at h;rw[qA hget];exact h)
     |(rw[qA hget,←e] at h;rw[nA hget];exact h)
  rw[this]
  simp
 ·have h1:(f9 (ah f) f.blocks.length).contains false=true:=by
   cases h:(f9 (ah f) f.blocks.length).contains false with
   |true=>rfl
   |false=>exact absurd ((me hE).1 h) hA
  have h2:(List.range f.blocks.length).all (Hu f)=false:=by
   rw[Bool.eq_false_iff]
   intro h
   apply hA
   intro i hi
   have:=List.all_eq_true.1 h i (List.mem_range.2 hi)
   rw[nA (qt hi)] at this
   unfold oF at this
   simp only[wa,wg] at this
   exact this.1
  rw[h1,h2]
  simp
end Go.Proofs.YtdilpodccjlkgaaGreatDoor
namespace Go.Proofs.YtdilpodccjlkgaaGreatDoor
open Go.Proofs.Tryz
theorem nC {v i:Int} {b:aX} {m:gB}:m∈sC v i b↔(∃p∈b.phis,p.dst=v∧m=(i,-1))∨∃(k:Nat) (x:aF),b.insts[k]?=some x∧x.dst=v∧m=(i,(k:Int)):=by
 unfold sC
 rw[List.mem_append]
 constructor
 ·rintro (h|h)
  ·obtain ⟨p,hp,e⟩:=List.mem_map.1 h
   obtain ⟨h1,h2⟩:=List.mem_filter.1 hp
   exact .inl ⟨p,h1,by simpa using h2,e.symm⟩
  ·obtain ⟨q,hq,e⟩:=List.mem_map.1 h
   obtain ⟨h1,h2⟩:=List.mem_filter.1 hq
   obtain ⟨x,k⟩:=q
   have:=List.mem_zipIdx_iff_getElem?.1 h1
   exact .inr ⟨k,x,this,by simpa using h2,e.symm⟩
 ·rintro (⟨p,h1,h2,rfl⟩|⟨k,x,h1,h2,rfl⟩)
  ·exact .inl (List.mem_map.2 ⟨p,List.mem_filter.2 ⟨h1,by simpa using h2⟩,rfl⟩)
  ·exact .inr (List.mem_map.2 ⟨(x,k),List.mem_filter.2 ⟨List.mem_zipIdx_iff_getElem?.2 h1,by simpa using h2⟩,rfl⟩)
theorem k7 {f:ac} {v:Int} {m:gB}:m∈bu f v↔∃(i:Nat) (b:aX),f.blocks[i]?=some b∧m∈sC v i b:=by
 unfold bu
 rw[List.mem_flatMap]
 constructor
 ·rintro ⟨⟨b,i⟩,h1,h2⟩;exact ⟨i,b,List.mem_zipIdx_iff_getElem?.1 h1,h2⟩
 ·rintro ⟨i,b,h1,h2⟩;exact ⟨(b,i),List.mem_zipIdx_iff_getElem?.2 h1,h2⟩
theorem BA {f:ac} {v:Int} (h:0≤(aL f v).1):aL f v∈bu f v:=by
 unfold aL at h ⊢
 cases hm:bu f v with
 |nil=>rw[hm] at h;simp at h
 |cons x l=>simp
theorem vE {f:ac} {v:Int} {m:gB} (hl:(bu f v).length≤1) (h:m∈bu f v):aL f v=m:=by
 unfold aL
 cases hm:bu f v with
 |nil=>rw[hm] at h;cases h
 |cons x l=>
  rw[hm] at h hl
  cases l with
  |nil=>simp at h;simp[h]
  |cons y l=>simp at hl
theorem vF {f:ac} {v:Int} (h:0≤(aL f v).1):∃(i:Nat) (b:aX),f.blocks[i]?=some b∧((∃p∈b.phis,p.dst=v∧aL f v=((i:Int),-1))∨∃(k:Nat) (x:aF),b.insts[k]?=some x∧x.dst=v∧aL f v=((i:Int),(k:Int))):=by
 obtain ⟨i,b,h1,h2⟩:=k7.1 (BA h)
 exact ⟨i,b,h1,nC.1 h2⟩
end Go.Proofs.YtdilpodccjlkgaaGreatDoor
namespace Go.Proofs.YtdilpodccjlkgaaGreatDoor
open Go.Proofs.Tryz
end Go.Proofs.YtdilpodccjlkgaaGreatDoor
namespace Go.Proofs.YtdilpodccjlkgaaGreatDoor
open Go.Proofs.Tryz
def Gc (q:Int):Prop:=21≤q∧q≤23
instance (q:Int):Decidable (Gc q):=by unfold Gc;infer_instance
end Go.Proofs.YtdilpodccjlkgaaGreatDoor
namespace Go.Proofs.YtdilpodccjlkgaaGreatDoor
open Go.Proofs.Tryz
end Go.Proofs.YtdilpodccjlkgaaGreatDoor
namespace Go.Proofs.YtdilpodccjlkgaaGreatDoor
open Go.Proofs.Tryz
section
variable {n:Nat} {rule:List fI→Int→fI} {vs:List Int} {phi:Int→Prop} {rank:Int→Nat}
end
section
variable {n:Nat} {rule:List fI→Int→fI} {vs:List Int} {phi:Int→Prop} {t:Int→fI}
end
end Go.Proofs.YtdilpodccjlkgaaGreatDoor
