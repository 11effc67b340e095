/- Places of a single program, one ahead of the other; what is made ahead of a place. Plain law. No conditions. -/
import Derived.Test.YtdilpodccjlkgaaGreatDoorLl
import Derived.Test.YtdilpodccjlkgaaGreatDoorLe
import Derived.Test.YtdilpodccjlkgaaGreatDoorLj
import Derived.Test.YtdilpodccjlkgaaGreatDoorLf
import Derived.Test.YtdilpodccjlkgaaGreatDoorLi
import Derived.Test.YtdilpodccjlkgaaGreatDoorLc
set_option linter.unusedVariables false
set_option linter.unusedSimpArgs false
set_option linter.unusedSectionVars false
namespace Go.Proofs.YtdilpodccjlkgaaGreatDoor
open Go.Proofs.Tryz
open Go.Proofs Go.Lib Go.Shelf Go.RowKit
theorem zN:de prog 77 #[(0,1),(1,1)] [.int .i64 0,.int .i64 0]:=⟨_,_,Zg,zeroValue77,fun w=>by kernel_rfl,rfl⟩
theorem l3:cF prog 69 77 1 2 [.int .i64 0,.int .i64 0]:=⟨_,Zl,Ya,zeroValue77,by decide,by decide,by kernel_rfl⟩
variable {E:World}
set_option maxRecDepth 20000
theorem bz.dstPhi {f:ad} (h:bz f) {b:aN} (hb:b∈f.blocks) {p:eJ} (hp:p∈b.phis):0≤p.dst∧p.dst<f.vars.length:=by
 have:=((h.2.2.2.2.2 b hb).1 p hp).1
 simpa [aT] using this
theorem bz.dstInst {f:ad} (h:bz f) {b:aN} (hb:b∈f.blocks) {x:aB} (hx:x∈b.insts) (h0:0≤x.dst):x.dst<f.vars.length:=by
 rcases (fK ((h.2.2.2.2.2 b hb).2.1 x hx)).dst with ⟨_,d⟩|⟨_,_,d⟩
 ·omega
 ·have:0≤x.dst∧x.dst<f.vars.length:=by simpa [aT] using d
  exact this.2
theorem small.evs {f:ad} (hf:small f) {k:Nat} (hk:k≤f.blocks.length):(cX f k).length≤2000000:=by
 have h1:=sI (m:=2000) (fun b hb=>by have:=hf.2.2.2.2 b hb;have h2:=this.2.1;have h3:=this.2.2.1;omega) k hk
 have:=hf.2.2.1
 omega
set_option maxHeartbeats 4000000 in
theorem mz (f:ad) (hf:small f) (hS:bz f):aU prog E 63 [.agg (bD f)] []
  fun x O=>∃b:Nat,x=dM b f.vars.length∧O=[(0,cP eP 69 77 b (n9 f))]:=by
 have hv:=hf.1
 have hn:=hf.2.2.1
 refine zo func63 Z (by decide) Z<|ah<|ya (cs:=_) Z Z Z<|za (iR Z)<|z6<|ah<|aq je Z Y5 Z Z<|aH Yg Z<|ap Z6 Z<|y9 (m:=f.vars.length) Zw type69 Z Z Z Z Z (by simp) (by simp) (by show (24:Int)*_≤_;omega) (by omega) eP 77<|fun b13=>za (qa (v:=dM _ _) Z)<|z6<|zd<|ah<|aq je Z Z0 Z Z<|aH Zb Z<|ap ji Z<|aa Z<|z6<|zj<|y8 (γ:=Nat) [3,15,16] (fun k=>[(17,.int .i64 k)]) (fun k=>[(0,cP eP 69 77 b13 (bQ f.vars.length (cX f k)))]) (fun k=>k≤f.blocks.length) (fun k=>f.blocks.length - k) 0 aJ ⟨_,(.refl _),by rw[n6];rfl⟩ (ql _) ?_
 rintro k hk
 refine ah<|aw Z Z<|z6<|zd<|zw Z (fun ck=>?_) (fun ck=>?_)
 ·have hk2:k<f.blocks.length:=by simp at ck;omega
  obtain ⟨b,hbk⟩:∃b,f.blocks[k]=b:=⟨_,rfl⟩
  have hget:f.blocks[k]?=some b:=by rw[qi hk2,hbk]
  have hmem:b∈f.blocks:=hbk▸qm hk2
  obtain ⟨hb0,hb1,hb2,hb3,hb4⟩:=hf.2.2.2.2 b hmem
  have hevl:=hf.evs hk
  refine zg<|zd<|zj<|ah<|aa Z<|za (bx k ji ju Z Z Z hget)<|ac Y4 ju Z Z<|y5 (cs:=[.str ⟨#[]⟩,.raw (.slice none 0 0),.raw (.slice none 0 0),.int .i64 0,.int .i64 0,.int .i64 0,.int .i64 0]) Zc Z Z<|fun i5=>ao Z<|zz ju Z Z Z Z Z Z .head Z<|ze (yd (t:=5) Z .head)<|z6<|zd<|ah<|aq jg Z Y9 Z Z<|aH Yj Z<|ap jz Z<|aa Z<|z6<|zj<|y8 (γ:=Nat) [3,4,5,15,16,17,23,24] (fun j=>[(25,.int .i64 j)]) (fun j=>[(0,cP eP 69 77 b13 (bQ f.vars.length (cX f k++cZ k (b.phis.take j))))]) (fun j=>j≤b.phis.length) (fun j=>b.phis.length - j) 0 aJ ⟨_,(.refl _),by rw[show cZ k (b.phis.take 0)=[] from rfl,qu]⟩ (ql _) ?_
  rintro j hj
  refine ah<|aw Z Z<|z6<|zd<|zw Z (fun cj=>?_) (fun cj=>?_)
  ·have hj2:j<b.phis.length:=by simp at cj;omega
   obtain ⟨p,hp⟩:∃p,b.phis[j]=p:=⟨_,rfl⟩
   obtain ⟨hd0,hdn⟩:=hS.dstPhi hmem (hp▸qm hj2)
   obtain ⟨rows,hrows⟩:∃rows,bQ f.vars.length (cX f k++cZ k (b.phis.take j))=rows:=⟨_,rfl⟩
   have hdl:p.dst.toNat<(bQ f.vars.length (cX f k++cZ k (b.phis.take j))).length:=by rw[bX];omega
   have hrl:=iz hdl
   have hsucc:=jK (x:=((k:Int),(-1:Int))) hd0 hdl
   have hrn:=bX f.vars.length (cX f k++cZ k (b.phis.take j))
   have hel:(cX f k++cZ k (b.phis.take j)).length≤2001000:=by rw[qo,cZ,qp,List.length_take];omega
   rw[qk,show cZ k (b.phis.take j)++[(p.dst,((k:Int),(-1:Int)))]=cZ k (b.phis.take (j+1)) by rw[kh k hj2,hp]] at hsucc
   simp only[hrows] at hdl hrl hsucc hrn
   rw[hrows]
   refine zg<|zd<|zj<|ah<|za (bx j jz Z8 Z Z Z (by rw[qi hj2,hp])) ?_
   refine ac Yo Z8 Z Z<|y5 (cs:=[.int .i64 0,.raw (.slice none 0 0),.raw (.slice none 0 0)]) Y6 Z Z<|fun i7=>zz Z8 Z Z Z Z Z Z .head Z<|ze (yd (t:=7) Z .head)<|z6<|yg (γ:=Unit) [3,4,5,15,16,17,23,24,25] (fun u=>[]) (fun u=>[(0,cP eP 69 77 b13 (rows.set p.dst.toNat (rows[p.dst.toNat]++[((k:Int),-1)])))]) (fun u=>True) ?_ (fun _ _ h=>h) ?_
   ·refine zt (fun j=>Nat.beq j 13) (by kernel_rfl) Z (zm (.rest _))<|aj 0 Z (yr (v:=dM _ _) Z)<|aj 1 Z (bK jx Z wz Z Z)<|aj 2 Z (da j6 Z)<|aj 3 Z (yr (v:=dM _ _) Z)<|aj 4 Z (bK jx Z wz Z Z)<|aj 5 Z (da j6 Z)<|aj 6 Z (qf (j:=p.dst.toNat) Zw Yb Z Z (by omega) (by omega))<|aj 8 Z (dF Z)<|aj 9 Z (y4 (cps:=[(0,[_]),(1,[_])]) (rs:=[_,_]) zN Z Z Z)<|yn (i:=7) (j:=10) Z Z (by kernel_rfl) ?_ ?_
    ·refine q6 (j:=p.dst.toNat) (r:=rows[p.dst.toNat]) Ys Z (qi hdl) (fun _=>.head)<|fun i36=>z6<|aY 10 Z<|y3 (rows:=[[_,_]]) l3 Z Z Z Z Z<|z6<|aY 11 Z<|yj (k:=2) Zl type77 Z Z Z Z Z (fun _=>.head) (by rw[eP.av_len];rfl) (by decide) Z (by show (_+1)*16≤_;omega) (by show _+1≤_;omega)<|fun i40=>z6<|aj 12 Z (qf (j:=p.dst.toNat) Zw Yb Z Z (by omega) (by omega))<|ym<|yk (i:=13) Z (by kernel_rfl) (by kernel_rfl)<|qg (j:=p.dst.toNat) (r:=rows[p.dst.toNat]++[((k:Int),-1)]) Yb Z Z (by omega) .head .head Z (eP.av_push rows[p.dst.toNat] ((k:Int),(-1:Int))) (by simp)<|z6<|yq (by kernel_rfl) ?_
     exact ⟨(),qE,trivial,aE,trivial⟩
    ·refine y3 (rows:=[[_,_]]) l3 Z Z Z Z Z<|z6<|aY 7 Z<|q6 (j:=p.dst.toNat) (r:=rows[p.dst.toNat]) Ys Z (qi hdl) (fun _=>.head)<|fun i36=>z6<|aY 11 Z<|yj (k:=2) Zl type77 Z Z Z Z Z (fun _=>.head) (by rw[eP.av_len];rfl) (by decide) Z (by show (_+1)*16≤_;omega) (by show _+1≤_;omega)<|fun i40=>z6<|aj 12 Z (qf (j:=p.dst.toNat) Zw Yb Z Z (by omega) (by omega))<|ym<|yk (i:=13) Z (by kernel_rfl) (by kernel_rfl)<|qg (j:=p.dst.toNat) (r:=rows[p.dst.toNat]++[((k:Int),-1)]) Yb Z Z (by omega) .head .head Z (eP.av_push rows[p.dst.toNat] ((k:Int),(-1:Int))) (by simp)<|z6<|yq (by kernel_rfl) ?_
     exact ⟨(),qE,trivial,aE,trivial⟩
   ·rintro _ _
    refine aV<|aC Z Z<|aa Z<|z6 ?_
    exact ⟨j+1,vh,aJ,⟨_,(.refl _),by rw[hsucc]⟩,hj2,by omega⟩
  ·have hjn:j=b.phis.length:=by simp at cj;omega
   subst hjn
   rw[qn]
   refine y7<|ah<|aq jg Z Zd Z Z<|aH Zs Z<|ap jt Z<|aa Z<|z6<|zj<|y8 (γ:=Nat) [3,4,15,16,17,44,45] (fun j=>[(46,.int .i64 j)]) (fun j=>[(0,cP eP 69 77 b13 (bQ f.vars.length (cX f k++cZ k b.phis++fQ k (b.insts.take j))))]) (fun j=>j≤b.insts.length) (fun j=>b.insts.length - j) 0 aJ ⟨_,(.refl _),by rw[show fQ k (b.insts.take 0)=[] from rfl,qu]⟩ (ql _) ?_
   rintro j hj
   refine ah<|aw Z Z<|z6<|zd<|zw Z (fun cj=>?_) (fun cj=>?_)
   ·have hj2:j<b.insts.length:=by simp at cj;omega
    obtain ⟨p,hp⟩:∃p,b.insts[j]=p:=⟨_,rfl⟩
    have hev:=gY k hj2
    rw[hp] at hev
    refine zg<|zd<|zj<|ah<|aa Z<|za (bx j jt jk Z Z Z (by rw[qi hj2,hp])) ?_
    refine ac Zn jk Z Z<|y5 (cs:=[.int .i64 0,.int .i64 0,.raw (.slice none 0 0),.int .i64 0]) Z5 Z Z<|fun i9=>ao Z<|zz jk Z Z Z Z Z Z .head Z<|ze (yd (t:=9) Z .head)<|z6<|ah<|aq wy Z wz Z Z<|ay j6 Z<|za (q3 Z Z)<|z6<|zu Z (fun cd=>?_) (fun cd=>?_)
    ·have hd0:0≤p.dst:=by simpa using cd
     have hdn:=hS.dstInst hmem (hp▸qm hj2) hd0
     rw[if_pos hd0] at hev
     obtain ⟨rows,hrows⟩:∃rows,bQ f.vars.length (cX f k++cZ k b.phis++fQ k (b.insts.take j))=rows:=⟨_,rfl⟩
     have hdl:p.dst.toNat<(bQ f.vars.length (cX f k++cZ k b.phis++fQ k (b.insts.take j))).length:=by rw[bX];omega
     have hrl:=iz hdl
     have hsucc:=jK (x:=((k:Int),(j:Int))) hd0 hdl
     have hrn:=bX f.vars.length (cX f k++cZ k b.phis++fQ k (b.insts.take j))
     have hel:(cX f k++cZ k b.phis++fQ k (b.insts.take j)).length≤2002000:=by
      have:=n8 k (b.insts.take j)
      rw[List.length_take] at this
      rw[qo,qo,cZ,qp];omega
     rw[qk (cX f k++cZ k b.phis) (fQ k (b.insts.take j)) [(p.dst,((k:Int),(j:Int)))],←hev] at hsucc
     simp only[hrows] at hdl hrl hsucc hrn
     rw[hrows]
     refine yg (γ:=Unit) [3,4,15,16,17,44,45,46] (fun u=>[]) (fun u=>[(0,cP eP 69 77 b13 (rows.set p.dst.toNat (rows[p.dst.toNat]++[((k:Int),(j:Int))])))]) (fun u=>True) ?_ (fun _ _ h=>h) ?_
     ·refine zt (fun j=>Nat.beq j 14) (by kernel_rfl) Z (zm (.rest _))<|aj 0 Z (yr (v:=dM _ _) Z)<|aj 1 Z (bK wy Z wz Z Z)<|aj 2 Z (da j6 Z)<|aj 3 Z (yr (v:=dM _ _) Z)<|aj 4 Z (bK wy Z wz Z Z)<|aj 5 Z (da j6 Z)<|aj 6 Z (qf (j:=p.dst.toNat) Zw Yb Z Z (by omega) (by omega))<|aj 8 Z (dF Z)<|aj 9 Z (dF Z)<|aj 10 Z (y4 (cps:=[(0,[_]),(1,[_])]) (rs:=[_,_]) zN Z Z Z)<|yn (i:=7) (j:=11) Z Z (by kernel_rfl) ?_ ?_
      ·refine q6 (j:=p.dst.toNat) (r:=rows[p.dst.toNat]) Ys Z (qi hdl) (fun _=>.head)<|fun i61=>z6<|aY 11 Z<|y3 (rows:=[[_,_]]) l3 Z Z Z Z Z<|z6<|aY 12 Z<|yj (k:=2) Zl type77 Z Z Z Z Z (fun _=>.head) (by rw[eP.av_len];rfl) (by decide) Z (by show (_+1)*16≤_;omega) (by show _+1≤_;omega)<|fun i66=>z6<|aj 13 Z (qf (j:=p.dst.toNat) Zw Yb Z Z (by omega) (by omega))<|ym<|yk (i:=14) Z (by kernel_rfl) (by kernel_rfl)<|qg (j:=p.dst.toNat) (r:=rows[p.dst.toNat]++[((k:Int),(j:Int))]) Yb Z Z (by omega) .head .head Z (eP.av_push rows[p.dst.toNat] ((k:Int),(j:Int))) (by simp)<|z6<|yq (by kernel_rfl) ?_
       exact ⟨(),vh,trivial,aE,trivial⟩
      ·refine y3 (rows:=[[_,_]]) l3 Z Z Z Z Z<|z6<|aY 7 Z<|q6 (j:=p.dst.toNat) (r:=rows[p.dst.toNat]) Ys Z (qi hdl) (fun _=>.head)<|fun i61=>z6<|aY 12 Z<|yj (k:=2) Zl type77 Z Z Z Z Z (fun _=>.head) (by rw[eP.av_len];rfl) (by decide) Z (by show (_+1)*16≤_;omega) (by show _+1≤_;omega)<|fun i66=>z6<|aj 13 Z (qf (j:=p.dst.toNat) Zw Yb Z Z (by omega) (by omega))<|ym<|yk (i:=14) Z (by kernel_rfl) (by kernel_rfl)<|qg (j:=p.dst.toNat) (r:=rows[p.dst.toNat]++[((k:Int),(j:Int))]) Yb Z Z (by omega) .head .head Z (eP.av_push rows[p.dst.toNat] ((k:Int),(j:Int))) (by simp)<|z6<|yq (by kernel_rfl) ?_
       exact ⟨(),vh,trivial,aE,trivial⟩
     ·rintro _ _
      refine aV<|aC Z Z<|aa Z<|z6 ?_
      exact ⟨j+1,kA,aJ,⟨_,(.refl _),by rw[hsucc]⟩,hj2,by omega⟩
    ·have hd0:¬0≤p.dst:=by simpa using cd
     rw[if_neg hd0,qu] at hev
     refine zg<|aV<|aC Z Z<|aa Z<|z6 ?_
     exact ⟨j+1,kA,aJ,⟨_,(.refl _),by rw[hev]⟩,hj2,by omega⟩
   ·have hjn:j=b.insts.length:=by simp at cj;omega
    subst hjn
    rw[qn]
    refine y7<|aV<|aC Z Z<|aa Z<|z6 ?_
    exact ⟨k+1,dy,aJ,⟨_,(.refl _),by rw[fD hk2,hbk,n7,qk]⟩,hk2,by omega⟩
 ·have hkn:k=f.blocks.length:=by simp at ck;omega
  subst hkn
  refine y7<|ah<|za (yr (v:=dM _ _) Z)<|za (qa (v:=dM _ _) Z)<|z6<|zh<|zk (x:=dM _ _) Z ?_
  exact ⟨b13,rfl,rfl⟩
end Go.Proofs.YtdilpodccjlkgaaGreatDoor
namespace Go.Proofs.YtdilpodccjlkgaaGreatDoor
open Go.Proofs.Tryz
open Go.Proofs Go.Lib Go.Shelf Go.RowKit
variable {E:World}
set_option maxRecDepth 20000
theorem dT {f:ad} (h:bc f=true):bz f:=by
 unfold bc at h
 rw[qx,fB] at h
 exact qz h.1
theorem ES (l:List f7):((eP.av l++[AV.int .i64 (-1),AV.int .i64 0]).drop 0).take 2=[AV.int .i64 (l.head?.getD (-1,0)).1,AV.int .i64 (l.head?.getD (-1,0)).2]:=by cases l<;>rfl
theorem rg {f:ad} (hf:small f) {v:Nat} (h:v<f.vars.length):(aZ f v).length≤2000000:=by
 have h1:=eh (cX f f.blocks.length) h
 have h2:v<(bQ f.vars.length (cX f f.blocks.length)).length:=by rw[bX];exact h
 have h3:=iz h2
 have h4:=hf.evs (Nat.le_refl _)
 rw[qi h2,lz] at h1
 rw[Option.some.inj h1] at h3
 omega
theorem jM (f:ad) (hf:small f) (hL:bn E) (ht:bc f=true):aI prog E 34 [.agg (bD f)] (.fro 2 ((bP f).map eP.row)):=by
 have hv:=hf.1
 refine zo func34 Z (by decide) Z<|ah<|ya (cs:=_) Z Z Z<|za (iR Z)<|z6<|zd<|ah<|ac jj jh Z Z<|zf (n3 f hf hL) Z<|aL Z Z<|z6<|ye Z (by rw[ht];rfl)<|zg<|ah<|za (iR Z)<|z6<|zd<|ah<|ac jj jh Z Z<|zr Z (zm (.rest _)) (mz f hf (dT ht)) ?_
 rintro r10 O10 ⟨b10,rfl,rfl⟩
 refine za (Gv.lenN Zw Z)<|aa Z<|z6<|gj (t:=3) (k:=2) (T:=77) Z<|fun i3=>zy (aX.nestTail .t1)<|zj<|y8 (γ:=Nat × Nat) [10,11] (fun g=>[(12,.int .i64 g.1),(3,.own g.2 g.1)]) (fun g=>[(g.2,.grow 2 77 (((bP f).take g.1).map eP.row).flatten),(0,vk eP 69 77 b10 (n9 f) g.1)]) (fun g=>g.1≤f.vars.length) (fun g=>f.vars.length - g.1) (0,i3) eZ aE (ql _) ?_
 rintro ⟨k,i3⟩ hk
 try dsimp only at *
 refine ah<|aw Z Z<|z6<|zd<|zw Z (fun ck=>?_) (fun ck=>?_)
 ·have hk2:k<f.vars.length:=by simp at ck;omega
  have hml:=rg hf hk2
  have hmt:(bP f)[k]?=some (aF f k):=mv hk2
  have hkm:k<(bP f).length:=by rw[jL];exact hk2
  have hmk:(bP f)[k]=aF f k:=by rw[qi hkm] at hmt;exact Option.some.inj hmt
  refine zg<|zd<|zj<|ah<|za (qf (j:=k) Zw Yb Z Z Z (by omega))<|ax.nestShift Ys Z (oa hk2) .t1<|fun i15=>za (lj Z)<|z6<|ah<|za (gQ Z)<|za (y4 (cps:=[(0,[_]),(1,[_])]) (rs:=[_,_]) zN Z Z Z)<|y3 (rows:=[[_,_]]) l3 Z Z Z Z Z<|yj (k:=2) Zl type77 Z Z Z Z Z (fun _=>.head) (by rw[eP.av_len];rfl) (by decide) Z (by show (_+1)*16≤_;omega) (by show _+1≤_;omega)<|fun i19=>za (lj Z)<|z6<|aV<|za (gQ Z)<|za (gQ Z)<|za (Gv.idxO (j:=0) Zl Ya Z Z Z ⟨_,.head⟩ (by simp) (by show 0<_+1;omega))<|za (Gv.loadAG (l:=[_,_]) isAgg77 Ya Z ⟨_,.head⟩ (by simp) (by simp) (ES _))<|y3 (rows:=[[_,_]]) l3 Z Z Z Z Z<|yj (k:=2) Zl type77 Z Z Z Z Z (fun _=>.t1) (by rw[li (k:=2) (fun _=>rfl),List.length_take,Nat.min_eq_left (by omega)]) (by decide) Z (by show (_+1)*16≤_;omega) (by show _+1≤_;omega)<|fun i25=>za (lj Z)<|z6<|zy (aX.drop .head)<|aV<|aC Z Z<|aa Z<|z6 ?_
  exact ⟨(k+1,i25),eZ,eZ,⟨_,(.refl _),by rw[←jW (qj hkm),hmk];rfl⟩,hk2,by dsimp only;omega⟩
 ·have hkn:k=f.vars.length:=by simp at ck;omega
  subst hkn
  rw[show (bP f).take f.vars.length=bP f by rw[←jL f,qn]]
  refine y7<|ah<|za (gQ Z)<|za (lj Z)<|z6<|zh ?_
  repeat (first|refine f9 ?_|refine eO ?_)
  refine yc (aX.know (t:=2) (rows:=(bP f).map eP.row) Z .head (by first|(intro r hr;obtain ⟨x,_,rfl⟩:=List.mem_map.1 hr;rfl)|simp[cE,e9,d6,be,bN]) (by decide) (by rw[qp,jL]))<|zk (x:=.fro _ _) Z ?_
  rfl
theorem w7 (f:ad) (hf:small f) (hS:bz f):aI prog E 95 [.agg (bD f)] (.bool (kD f)):=by
 have hv:=hf.1
 refine zo func95 Z (by decide) Z<|ah<|ya (cs:=_) Z Z Z<|ab Z<|z6<|zd<|ah<|ac jj jh Z Z<|zr Z (zm (.rest _)) (mz f hf hS) ?_
 rintro r6 O6 ⟨b6,rfl,rfl⟩
 refine za (Gv.lenN Zw Z)<|aa Z<|z6<|zy (aX.nestKnow (s:=6) Z .head (ur f))<|zj<|y8 (γ:=Nat) [1,6,7] (fun k=>[(8,.int .i64 k)]) (fun k=>[]) (fun k=>k≤f.vars.length∧(List.range k).all (gZ f)=true) (fun k=>f.vars.length - k) 0 aJ aE (⟨ql _,Z⟩) ?_
 rintro k ⟨hk,hall⟩
 refine ah<|aw Z Z<|z6<|zd<|zw Z (fun ck=>?_) (fun ck=>?_)
 ·have hk2:k<f.vars.length:=by simp at ck;omega
  refine zg<|zd<|zj<|ah<|aa Z<|za (bx k Zw Yb Z Z Z (oa hk2))<|aH Ys Z<|ao Z<|za (oP Z)<|z6<|ah<|bb Z<|ap Zl Z<|za (yx Z Z)<|ai Z<|zp (s:=16) Z (fun c1=>?_) (fun c1=>?_)
  ·have d1:1<(aZ f k).length:=by have h0:(1:Int)<((aZ f k).length:Int):=(by simpa using c1);omega
   refine z7 Z Z c1<|z7 Z Z c1<|z7 Z Z c1<|z7 Z Z c1<|zi Z Z<|zi Z Z<|zi Z Z<|zi Z Z<|zi Z Z<|z7 Z Z c1<|ar Z c1 Z<|z6<|yl Z Z<|ah<|ab Z<|z6<|zh<|zk (x:=.bool _) Z ?_
   rw[show kD f=false from dq hk2 (by unfold gZ;simp[d1])]
  ·have d1:¬1<(aZ f k).length:=by have h0:¬(1:Int)<((aZ f k).length:Int):=(by simpa using c1);omega
   refine z8 Z Z c1<|bb Z<|z8 Z Z c1<|ap Zl Z<|z8 Z Z c1<|za (yx Z Z)<|z8 Z Z c1<|ai Z<|zp (s:=20) Z (fun c2=>?_) (fun c2=>?_)
   ·have d2:aZ f k≠[]:=by have h0:0<(aZ f k).length:=(by simpa using c2);exact List.ne_nil_of_length_pos h0
    refine z8 Z Z c2<|aa Z<|z8 Z Z c2<|aq je Z j5 Z Z<|z8 Z Z c2<|aH j9 Z<|z8 Z Z c2<|ap wx Z<|z8 Z Z c2<|aw Z Z<|z8 Z Z c1<|ar Z c2 Z<|au Z c1 Z<|z6<|zu Z (fun c3=>?_) (fun c3=>?_)
    ·have d3:k<f.params.length:=by simpa using c3
     refine ah<|ab Z<|z6<|zh<|zk (x:=.bool _) Z ?_
     rw[show kD f=false from dq hk2 (by unfold gZ;simp[d2,d3,List.length_pos_iff])]
    ·have d3:¬k<f.params.length:=by simpa using c3
     refine zg<|aV<|aC Z Z<|aa Z<|z6 ?_
     exact ⟨k+1,dy,aJ,aE,⟨hk2,bW hall (by unfold gZ;simp[d1,d3])⟩,by omega⟩
   ·have d2:aZ f k=[]:=by simpa using c2
    refine z7 Z Z c2<|z7 Z Z c2<|z7 Z Z c2<|z7 Z Z c2<|z7 Z Z c2<|z8 Z Z c1<|au Z c2 Z<|au Z c1 Z<|z6<|ye Z Z<|zg<|aV<|aC Z Z<|aa Z<|z6 ?_
    exact ⟨k+1,dy,aJ,aE,⟨hk2,bW hall (by unfold gZ;simp[d2])⟩,by omega⟩
 ·have hkn:k=f.vars.length:=by simp at ck;omega
  subst hkn
  refine y7<|ah<|ab Z<|z6<|zh<|zk (x:=.bool _) Z ?_
  rw[show kD f=true from hall]
end Go.Proofs.YtdilpodccjlkgaaGreatDoor
namespace Go.Proofs.YtdilpodccjlkgaaGreatDoor
open Go.Proofs.Tryz
open Go.Proofs Go.Lib Go.Shelf Go.RowKit
variable {E:World}
set_option maxRecDepth 20000
theorem mR {p:Int→Bool} {fn:FuncId} {c:List AV} (xs:List Int) (hl:xs.length≤281474976710656) (hp:∀x∈xs,aI prog E fn ([.int .i64 x]++c) (.bool (p x))) :
  aI prog E 162 [.fro 1 (xs.map cE),.fn fn [] c] (.int .i64 (bT p xs 0)):=by
 refine zo func162 Z (by decide) Z<|ah<|ao Z<|z6<|zd<|ah<|bb Z<|ap wx Z<|aa Z<|z6<|zj<|y8 (γ:=Nat) [0,1,7] (fun k=>[(8,.int .i64 k)]) (fun k=>[]) (fun k=>k≤xs.length∧(xs.take k).all (fun x=>!p x)) (fun k=>xs.length - k) 0 aJ aE (⟨ql _,Z⟩) ?_
 rintro k ⟨hk,hall⟩
 refine ah<|aw Z Z<|z6<|zd<|zw Z (fun ck=>?_) (fun ck=>?_)
 ·have hk2:k<xs.length:=by simp at ck;omega
  refine zg<|zd<|zj<|ah<|aa Z<|ao Z<|z6<|ah<|za (yr (v:=.fn _ _ _) Z)<|bb Z<|aa Z<|za (bx k wx wz Z Z Z (qi hk2))<|ay j6 Z<|ax.callVP Z (hp _ (qm hk2)) Z<|z6<|zu Z (fun cp=>?_) (fun cp=>?_)
  ·refine ah<|aa Z<|ao Z<|z6<|zh<|zk (x:=.int _ _) Z ?_
   rw[bq p xs k hk hall,List.drop_eq_getElem_cons hk2,bT,if_pos cp]
  ·refine zg<|aV<|aC Z Z<|aa Z<|z6 ?_
   exact ⟨k+1,dy,aJ,aE,⟨hk2,by rw[qj hk2,List.all_append,hall];simp[cp]⟩,by omega⟩
 ·have hkn:k=xs.length:=by simp at ck;omega
  refine y7<|ah<|ao Z<|z6<|zh<|zk (x:=.int _ _) Z ?_
  rw[bq p xs k hk hall,hkn,List.drop_length,bT]
theorem kV {p:Int→Bool} {fn:FuncId} {c:List AV} (xs:List Int) (hl:xs.length≤281474976710656) (hp:∀x∈xs,aI prog E fn ([.int .i64 x]++c) (.bool (p x))) :
  aI prog E 131 [.fro 1 (xs.map cE),.fn fn [] c] (.bool (xs.any p)):=by
 refine zo func131 Z (by decide) Z<|ah<|ab Z<|z6<|ah<|bb Z<|za (yr (v:=.fn _ _ _) Z)<|zf (mR xs hl hp) Z<|za (q3 Z Z)<|ab Z<|z6<|zh<|zk (x:=.bool _) Z ?_
 rw[ej]
theorem kW (f:ad) (hE:bE f) (hn:f.blocks.length≤1000) (m:f7) (b a:Int) (x y:AV):aI prog E 130 [lA f x y,.agg [.int .i64 m.1,.int .i64 m.2],.int .i64 b,.int .i64 a] (.bool (er f m b a)):=by
 refine zo func130 Z (by decide) Z<|ah<|ya (cs:=_) Z Z Z<|ab Z<|z6<|zd<|zj<|ah<|aq Zg Z wz Z Z<|ay j6 Z<|aw Z Z<|ab Z<|z6<|zw Z (fun c0=>?_) (fun c0=>?_)
 ·refine ah<|ab Z<|z6<|zh<|zk (x:=.bool _) Z ?_
  rw[er,if_pos c0]
 ·refine ah<|aq Zg Z wz Z Z<|ay j6 Z<|aa Z<|ak Z Z<|ab Z<|z6<|zu Z (fun c1=>?_) (fun c1=>?_)
  ·have d1:m.1=b:=by simpa using c1
   refine ah<|aq Zg Z wz Z Z<|ay j6 Z<|aa Z<|aw Z Z<|ab Z<|z6<|zh<|zk (x:=.bool _) Z ?_
   rw[er,if_neg c0,if_pos d1]
  ·have d1:¬m.1=b:=by simpa using c1
   refine zg<|ah<|za (ep Z)<|aq Zg Z wz Z Z<|ay j6 Z<|aa Z<|zf (w4 f hE hn m.1 b x y) Z<|ab Z<|z6<|zh<|zk (x:=.bool _) Z ?_
   rw[er,if_neg c0,if_neg d1]
theorem fE {f:ad} {v:Int} (h:aT f v=true):0≤v∧(bP f)[v.toNat]?=some (aF f v):=by
 have h1:0≤v∧v<f.vars.length:=by simpa [aT] using h
 refine ⟨h1.1,?_⟩
 have:=mv (f:=f) (v:=v.toNat) (by omega)
 rwa [show ((v.toNat:Nat):Int)=v by omega] at this
theorem rh (f:ad) (hE:bE f) (hn:f.blocks.length≤1000) (i k:Nat) (v:Int) (hv:aT f v=true) (x y:AV) :
  aI prog E 132 ([.int .i64 v]++[.pf [lA f x y],.pf [.fro 2 ((bP f).map eP.row)],.pf [.int .i64 i],.pf [.int .i64 k]]) (.bool (!er f (aF f v) i k)):=by
 obtain ⟨hv0,hvg⟩:=fE hv
 refine zo func132 Z (by decide) Z<|ah<|ab Z<|z6<|zd<|zt (fun j=>false) (by kernel_rfl) Z (zm (.rest _))<|aj 0 Z (yo (c:=.pf _) isAgg68 Z)<|aj 1 Z (eH Ys Z)<|aj 2 Z (dF Z)<|aj 3 Z (bx v.toNat Zl Ya Z Z (by omega) hvg)<|aj 4 Z (yt isAgg77 Ya Z Z)<|aj 5 Z (da j6 Z)<|aj 6 Z (da j6 Z)<|aY 7 Z<|zf (kW f hE hn (aF f v) i k x y) Z<|z6<|aj 8 Z (Gv.not Z)<|aj 9 Z (oO Z)<|bV<|zh<|zk (x:=.bool _) Z ?_
 rfl
theorem sV (x:aB):aI prog E 57 ([.agg (be x)]++[]) (.bool (decide (x.op=25)||decide (x.op=26))):=by
 refine zo func57 Z (by decide) Z<|ah<|ya (cs:=_) Z Z Z<|ab Z<|z6<|ah<|aq wy Z jv Z Z<|ay jy Z<|ak Z Z<|ai Z<|zp (s:=6) Z (fun c1=>?_) (fun c1=>?_)
 ·refine z7 Z Z c1<|z7 Z Z c1<|z7 Z Z c1<|ar Z c1 Z<|ab Z<|z6<|zh<|zk (x:=.bool _) Z ?_
  simp_all
 ·refine z8 Z Z c1<|aq wy Z jv Z Z<|z8 Z Z c1<|ay jy Z<|z8 Z Z c1<|ak Z Z<|au Z c1 Z<|ab Z<|z6<|zh<|zk (x:=.bool _) Z ?_
  simp_all
theorem C9 (b:aN) (hl:b.insts.length≤1000):aI prog E 56 [.fro 4 (b.insts.map be),.fn 57 [] []] (.bool (b.insts.any fun x=>decide (x.op=25)||decide (x.op=26))):=gq b.insts (by omega) (fun x _=>sV x)
set_option maxHeartbeats 4000000 in
theorem sW (f:ad) (hE:bE f) (hf:small f) (hS:bz f) (i:Nat) (hi:i<f.blocks.length) (x y:AV) :
  aI prog E 96 [.agg (bD f),lA f x y,.fro 2 ((bP f).map eP.row),.int .i64 i] (.bool (D4 f i)):=by
 have hn:=hf.2.2.1
 obtain ⟨b,hbk⟩:∃b,f.blocks[i]=b:=⟨_,rfl⟩
 have hget:f.blocks[i]?=some b:=by rw[qi hi,hbk]
 have hmem:b∈f.blocks:=hbk▸qm hi
 obtain ⟨hb0,hb1,hb2,hb3,hb4⟩:=hf.2.2.2.2 b hmem
 obtain ⟨hPh,hIn,hTm⟩:=hS.2.2.2.2.2 b hmem
 rw[ob hget]
 refine zo func96 Z (by decide) Z<|ah<|ya (cs:=_) Z Z Z<|ya (cs:=[_]) Z Z Z<|ya (cs:=[_]) Z Z Z<|ya (cs:=[_]) Z Z Z<|ab Z<|z6<|ah<|aq je Z Z0 Z Z<|aH Zb Z<|ay j6 Z<|za (bx i ji ju Z Z Z hget)<|ac Y4 ju Z Z<|y5 (cs:=[.str ⟨#[]⟩,.raw (.slice none 0 0),.raw (.slice none 0 0),.int .i64 0,.int .i64 0,.int .i64 0,.int .i64 0]) Zc Z Z<|fun i9=>zz ju Z Z Z Z Z Z .head Z<|ze (yd (t:=9) Z .head)<|z6<|zd<|ah<|aq jg Z Y9 Z Z<|aH Yj Z<|ap jz Z<|aa Z<|z6<|zj<|y8 (γ:=Nat) [4,5,6,7,9,23,24] (fun j=>[(25,.int .i64 j)]) (fun j=>[]) (fun j=>j≤b.phis.length∧(b.phis.take j).all (C7 f)=true) (fun j=>b.phis.length - j) 0 aJ aE (⟨ql _,Z⟩) ?_
 rintro j ⟨hj,hjall⟩
 refine ah<|aw Z Z<|z6<|zd<|zw Z (fun cj=>?_) (fun cj=>?_)
 ·have hj2:j<b.phis.length:=by simp at cj;omega
  obtain ⟨p,hp⟩:∃p,b.phis[j]=p:=⟨_,rfl⟩
  have hpm:p∈b.phis:=hp▸qm hj2
  obtain ⟨hpd,hpl,hpn,hpa,hpf⟩:=hPh p hpm
  have hpb:=hb3 p hpm
  refine zg<|zd<|zj<|ah<|za (bx j jz Z8 Z Z Z (by rw[qi hj2,hp])) ?_
  refine ac Yo Z8 Z Z<|y5 (cs:=[.int .i64 0,.raw (.slice none 0 0),.raw (.slice none 0 0)]) Y6 Z Z<|fun i11=>zz Z8 Z Z Z Z Z Z .head Z<|ze (yd (t:=11) Z .head)<|z6<|ah<|aq jx Z j5 Z Z<|aH j9 Z<|ap wx Z<|aa Z<|z6<|zj<|y8 (γ:=Nat) [4,5,6,7,9,11,23,24,25,30,31] (fun k=>[(32,.int .i64 k)]) (fun k=>[]) (fun k=>k≤p.args.length∧((p.args.zip p.from_).take k).all (fun q=>er f (aF f q.1) q.2 (fY f q.2))=true) (fun k=>p.args.length - k) 0 aJ aE (⟨ql _,Z⟩) ?_
  rintro k ⟨hk,hkall⟩
  refine ah<|aw Z Z<|z6<|zd<|zw Z (fun ck=>?_) (fun ck=>?_)
  ·have hk2:k<p.args.length:=by simp at ck;omega
   have hk3:k<p.from_.length:=by omega
   obtain ⟨v,hv⟩:∃v,p.args[k]=v:=⟨_,rfl⟩
   obtain ⟨c,hc⟩:∃c,p.from_[k]=c:=⟨_,rfl⟩
   obtain ⟨hv0,hvg⟩:=fE (List.all_eq_true.1 hpa v (hv▸qm hk2))
   have hcr:0≤c∧c<f.blocks.length:=by have:=List.all_eq_true.1 hpf c (hc▸qm hk3);simpa [dV] using this
   obtain ⟨d,hd⟩:∃d,f.blocks[c.toNat]'(by omega)=d:=⟨_,rfl⟩
   have hdg:f.blocks[c.toNat]?=some d:=by rw[qi (by omega),hd]
   have hla:fY f c=d.insts.length:=by unfold fY;rw[hdg];rfl
   have hz:k<(p.args.zip p.from_).length:=by rw[List.length_zip];omega
   have hzk:(p.args.zip p.from_)[k]=(v,c):=by rw[List.getElem_zip,hv,hc]
   refine zg<|zd<|zj<|ah<|aa Z<|za (bx k wx wz Z Z Z (by rw[qi hk2,hv])) ?_
   refine ay j6 Z<|ao Z<|ao Z<|z6<|ah<|aq jx Z j5 Z Z<|aH j9 Z<|aa Z<|za (bx k wx wz Z Z Z (by rw[qi hk3,hc])) ?_
   refine ay j6 Z<|ao Z<|z6<|zd<|zt (fun j=>false) (by kernel_rfl) Z (zm (.rest _))<|aj 0 Z (yo (c:=.pf _) isAgg68 Z)<|aj 1 Z (eH Ys Z)<|aj 2 Z (dF Z)<|aj 3 Z (bx v.toNat Zl Ya Z Z (by omega) hvg)<|aj 4 Z (yt isAgg77 Ya Z Z)<|aj 5 Z (dF Z)<|aj 6 Z (bK je Z Z0 Z Z)<|aj 7 Z (eH Zb Z)<|aj 8 Z (dF Z)<|aj 9 Z (bx c.toNat ji ju Z Z (by omega) hdg)<|aj 10 Z (bK jg Z Zd Z Z)<|aj 11 Z (eH Zs Z)<|aj 12 Z (Gv.lenM jt Z)<|aY 13 Z<|zf (kW f hE hn (aF f v) c d.insts.length x y) Z<|z6<|aj 14 Z (Gv.not Z)<|bV<|zu Z (fun cq=>?_) (fun cq=>?_)
   ·have hq:er f (aF f v) c (fY f c)=false:=by rw[hla];simpa using cq
    refine ah<|ab Z<|z6<|zh<|zk (x:=.bool _) Z ?_
    rw[pd,show b.phis.all (C7 f)=false from Bool.eq_false_iff.2 (cG hj2 (by rw[hp];unfold C7;exact Bool.eq_false_iff.2 (cG hz (by rw[hzk];exact hq))))];rfl
   ·have hq:er f (aF f v) c (fY f c)=true:=by rw[hla];simpa using cq
    refine zg<|aV<|aC Z Z<|aa Z<|z6 ?_
    exact ⟨k+1,⟨rfl,rfl,rfl,rfl,rfl,rfl,rfl,rfl,rfl,rfl,rfl,trivial⟩,aJ,aE,⟨hk2,bt hz hkall (by rw[hzk];exact hq)⟩,by omega⟩
  ·have hkn:k=p.args.length:=by simp at ck;omega
   have hzl:(p.args.zip p.from_).length=p.args.length:=by rw[List.length_zip];omega
   rw[hkn,←hzl,qn] at hkall
   refine y7<|aV<|aC Z Z<|aa Z<|z6 ?_
   exact ⟨j+1,kA,aJ,aE,⟨hj2,bt hj2 hjall (by rw[hp];exact hkall)⟩,by omega⟩
 ·have hjn:j=b.phis.length:=by simp at cj;omega
  subst hjn
  rw[qn] at hjall
  refine y7<|zd<|ah<|aq jg Z Zd Z Z<|aH Zs Z<|ap jt Z<|aa Z<|z6<|zj<|y8 (γ:=Nat) [5,6,7,9,60,61] (fun k=>[(62,.int .i64 k)]) (fun k=>[]) (fun k=>k≤b.insts.length∧((b.insts.zipIdx).take k).all (zJ f i)=true) (fun k=>b.insts.length - k) 0 aJ aE (⟨ql _,Z⟩) ?_
  rintro k ⟨hk,hkall⟩
  refine ah<|aw Z Z<|z6<|zd<|zw Z (fun ck=>?_) (fun ck=>?_)
  ·have hk2:k<b.insts.length:=by simp at ck;omega
   obtain ⟨z,hzk⟩:∃z,b.insts[k]=z:=⟨_,rfl⟩
   have hzm:z∈b.insts:=hzk▸qm hk2
   have hI:=fK (hIn z hzm)
   have hzl:=hb4 z hzm
   have hzi:k<b.insts.zipIdx.length:=by simp;exact hk2
   have hze:b.insts.zipIdx[k]=(z,k):=by simp[hzk]
   refine zg<|zd<|zj<|ah<|aa Z<|za (bx k jt jk Z Z Z (by rw[qi hk2,hzk])) ?_
   refine ac Zn jk Z Z<|y5 (cs:=[.int .i64 0]) Zk Z Z<|fun i15=>y5 (cs:=[.int .i64 0,.int .i64 0,.raw (.slice none 0 0),.int .i64 0]) Z5 Z Z<|fun i16=>zz wz Z Z Z Z Z Z .t1 Z<|ze (yd (t:=15) Z .t1)<|zz jk Z Z Z Z Z Z .head Z<|ze (yd (t:=16) Z .head)<|z6<|ah<|aq wy Z j5 Z Z<|aH j9 Z<|za (Gv.func Z Z)<|zf (kV z.args (by omega) (fun v hv=>rh f hE hn i k v (hI.args v hv) x y)) Z<|z6<|zu Z (fun cq=>?_) (fun cq=>?_)
   ·have hq:zJ f i (z,k)=false:=by
     unfold zJ
     rw[Bool.eq_false_iff];intro h
     obtain ⟨v,hv1,hv2⟩:=List.any_eq_true.1 (show (z.args.any fun v=>!er f (aF f v) i k)=true by simpa using cq)
     have:=List.all_eq_true.1 h v hv1
     rw[this] at hv2;cases hv2
    refine ah<|ab Z<|z6<|zh<|zk (x:=.bool _) Z ?_
    rw[pd,hjall,show b.insts.zipIdx.all (zJ f i)=false from Bool.eq_false_iff.2 (cG hzi (by rw[hze];exact hq))];rfl
   ·have hq:zJ f i (z,k)=true:=by
     unfold zJ
     rw[qy];intro v hv
     have h0:(z.args.any fun v=>!er f (aF f v) i k)=false:=by simpa using cq
     have:=List.any_eq_false.1 h0 v hv
     simpa using this
    refine zg<|aV<|aC Z Z<|aa Z<|z6 ?_
    exact ⟨k+1,AP,aJ,aE,⟨hk2,bt hzi hkall (by rw[hze];exact hq)⟩,by omega⟩
  ·have hkn:k=b.insts.length:=by simp at ck;omega
   rw[hkn,show b.insts.length=b.insts.zipIdx.length by simp,qn] at hkall
   refine y7<|zd<|zt (fun j=>false) (by kernel_rfl) Z (zm (.rest _))<|aj 0 Z (bK jg Z Zm Z Z)<|aj 1 Z (bK j8 Z Zv Z Z)<|aj 2 Z (da Y3 Z)<|aj 3 Z (Gv.eqlI Z Z)<|aj 4 Z (m4 Z)<|qe (s:=76) Z (fun c0=>?_) (fun c0=>?_)
   ·have d0:b.term.kind=0:=by simpa using c0
    refine bR 5 Z Z Z c0<|bR 6 Z Z Z c0<|bR 7 Z Z Z c0<|bR 8 Z Z Z c0<|bR 9 Z Z Z c0<|bR 10 Z Z Z c0<|bR 11 Z Z Z c0<|bR 12 Z Z Z c0<|bR 13 Z Z Z c0<|bR 14 Z Z Z c0<|bR 15 Z Z Z c0<|bR 16 Z Z Z c0<|aj 17 Z (rR Z c0 Z)<|aj 18 Z (oO Z)<|bV<|zh<|zk (x:=.bool _) Z ?_
    rw[pd,hjall,hkall,DD,d0];rfl
   ·have d0:¬b.term.kind=0:=by simpa using c0
    obtain ⟨hv0,hvg⟩:=fE (gu hTm d0)
    refine cC 5 Z Z Z c0 (yo (c:=.pf _) isAgg68 Z)<|cC 6 Z Z Z c0 (eH Ys Z)<|cC 7 Z Z Z c0 (bK jg Z Zm Z Z)<|cC 8 Z Z Z c0 (bK j8 Z wz Z Z)<|cC 9 Z Z Z c0 (da j6 Z)<|cC 10 Z Z Z c0 (bx b.term.var.toNat Zl Ya Z Z (by omega) hvg)<|cC 11 Z Z Z c0 (yt isAgg77 Ya Z Z)<|cC 12 Z Z Z c0 (da j6 Z)<|cC 13 Z Z Z c0 (bK jg Z Zd Z Z)<|cC 14 Z Z Z c0 (eH Zs Z)<|cC 15 Z Z Z c0 (Gv.lenM jt Z)<|aY 16 Z<|z8 Z Z c0<|zf (kW f hE hn (aF f b.term.var) i b.insts.length x y) Z<|z6<|aj 17 Z (qD Z c0 Z)<|aj 18 Z (oO Z)<|bV<|zh<|zk (x:=.bool _) Z ?_
    rw[pd,hjall,hkall,DD,qw d0];rfl
theorem jN (f:ad) (hf:small f) (hL:bn E):aI prog E 55 [.agg (bD f)] (.int .i64 (if (bc f&&cQ f)=true then 0 else 3)):=by
 have hn:=hf.2.2.1
 refine zo func55 Z (by decide) Z<|ah<|ya (cs:=_) Z Z Z<|ao Z<|z6<|zd<|ah<|ac jj jh Z Z<|zf (qY f hf hL) Z<|aL Z Z<|ai Z<|zp (s:=10) Z (fun c1=>?_) (fun c1=>?_)
 ·have d1:(bc f&&cH f)=false:=by
   cases h:(bc f&&cH f) with
   |false=>rfl
   |true=>rw[h] at c1;simp at c1
  refine z7 Z Z c1<|z7 Z Z c1<|z7 Z Z c1<|ar Z c1 Z<|ai Z<|z7 Z Z Z<|z7 Z Z Z<|z7 Z Z Z<|ar Z Z Z<|z6<|yl Z Z<|ah<|ao Z<|z6<|zh<|zk (x:=.int _ _) Z ?_
  rw[show (bc f&&cQ f)=false by unfold cQ;cases h:bc f<;>simp_all];rfl
 ·have d1:(bc f&&cH f)=true:=by
   cases h:(bc f&&cH f) with
   |true=>rfl
   |false=>rw[h] at c1;simp at c1
  have ht:bc f=true:=by simp at d1;exact d1.1
  have hj:cH f=true:=by simp at d1;exact d1.2
  have hE:=cR ht
  have hS:=dT ht
  refine z8 Z Z c1<|ac jj jh Z Z<|z8 Z Z c1<|zf (sL f hf hL ht) Z<|z8 Z Z c1<|zf (oc (fC (ae f) f.blocks.length) false (by rw[n4];omega)) Z<|au Z c1 Z<|ai Z<|zp (s:=15) Z (fun c2=>?_) (fun c2=>?_)
  ·refine z7 Z Z c2<|z7 Z Z c2<|z7 Z Z c2<|ar Z c2 Z<|z6<|yl Z Z<|ah<|ao Z<|z6<|zh<|zk (x:=.int _ _) Z ?_
   rw[show cQ f=false by unfold cQ;simp_all];simp
  ·refine z8 Z Z c2<|ac jj jh Z Z<|z8 Z Z c2<|zf (w7 f hf hS) Z<|z8 Z Z c2<|aD Z<|au Z c2 Z<|z6<|zu Z (fun c3=>?_) (fun c3=>?_)
   ·refine ah<|ao Z<|z6<|zh<|zk (x:=.int _ _) Z ?_
    rw[show cQ f=false by unfold cQ;simp_all];simp
   ·refine zg<|ah<|ac jj jh Z Z<|zf (sU f hf hL ht) Z<|za (iW Z)<|za (q4 (v:=.pf _) Z Z)<|za (iJ Z Z)<|za (qa (v:=.pf _) Z)<|ao Z<|z6<|zd<|ah<|aa Z<|aL Z Z<|z6<|ye Z Z<|zg<|ah<|ac jj jh Z Z<|zf (jM f hf hL ht) Z<|za (oP Z)<|z6<|zd<|ah<|aq je Z Z0 Z Z<|aH Zb Z<|ap ji Z<|aa Z<|z6<|zj<|y8 (γ:=Nat) [1,3,5,32] (fun k=>[(33,.int .i64 k)]) (fun k=>[]) (fun k=>k≤f.blocks.length∧(List.range k).all (D4 f)=true) (fun k=>f.blocks.length - k) 0 aJ aE (⟨ql _,Z⟩) ?_
    rintro k ⟨hk,hall⟩
    refine ah<|aw Z Z<|z6<|zd<|zw Z (fun ck=>?_) (fun ck=>?_)
    ·have hk2:k<f.blocks.length:=by simp at ck;omega
     refine zg<|zd<|zj<|ah<|aa Z<|ao Z<|z6<|ah<|ac jj jh Z Z<|za (ep Z)<|bb Z<|aa Z<|zf (sW f hE hf hS k hk2 (kx eI (my f)) .any) Z<|aD Z<|z6<|zu Z (fun cq=>?_) (fun cq=>?_)
     ·refine ah<|ao Z<|z6<|zh<|zk (x:=.int _ _) Z ?_
      rw[show cQ f=false by unfold cQ;rw[show ut f=false from dq hk2 (by simpa using cq)];simp];simp
     ·refine zg<|aV<|aC Z Z<|aa Z<|z6 ?_
      exact ⟨k+1,iS,aJ,aE,⟨hk2,bW hall (by simpa using cq)⟩,by omega⟩
    ·have hkn:k=f.blocks.length:=by simp at ck;omega
     subst hkn
     refine y7<|ah<|ao Z<|z6<|zh<|zk (x:=.int _ _) Z ?_
     rw[ht,show cQ f=true by unfold cQ;rw[show ut f=true from hall];simp_all];rfl
def fc (f:ad):Bool:=f.blocks.all fun b=>!(b.insts.any fun x=>decide (x.op=25)||decide (x.op=26))
theorem ol (f:ad) (hf:small f) (hL:bn E):aI prog E 32 [.agg (bD f)] (.int .i64 (if (bc f&&(cQ f&&fc f))=true then 0 else 3)):=by
 have hn:=hf.2.2.1
 refine zo func32 Z (by decide) Z<|ah<|ya (cs:=_) Z Z Z<|ao Z<|z6<|zd<|ah<|ac jj jh Z Z<|zf (jN f hf hL) Z<|ao Z<|z6<|ah<|aa Z<|aL Z Z<|z6<|zu Z (fun c1=>?_) (fun c1=>?_)
 ·have d1:(bc f&&cQ f)=false:=by
   cases h:(bc f&&cQ f) with
   |false=>rfl
   |true=>rw[h] at c1;simp at c1
  refine ah<|aa Z<|ao Z<|z6<|zh<|zk (x:=.int _ _) Z ?_
  rw[d1,show (bc f&&(cQ f&&fc f))=false by cases h:bc f<;>simp_all]
 ·have d1:(bc f&&cQ f)=true:=by
   cases h:(bc f&&cQ f) with
   |true=>rfl
   |false=>rw[h] at c1;simp at c1
  have ht:bc f=true:=by simp at d1;exact d1.1
  have hs:cQ f=true:=by simp at d1;exact d1.2
  refine zg<|zd<|ah<|aq je Z Z0 Z Z<|aH Zb Z<|ap ji Z<|aa Z<|z6<|zj<|y8 (γ:=Nat) [12,13] (fun k=>[(14,.int .i64 k)]) (fun k=>[]) (fun k=>k≤f.blocks.length∧(f.blocks.take k).all (fun b=>!(b.insts.any fun x=>decide (x.op=25)||decide (x.op=26)))=true) (fun k=>f.blocks.length - k) 0 aJ aE (⟨ql _,Z⟩) ?_
  rintro k ⟨hk,hall⟩
  refine ah<|aw Z Z<|z6<|zd<|zw Z (fun ck=>?_) (fun ck=>?_)
  ·have hk2:k<f.blocks.length:=by simp at ck;omega
   obtain ⟨b,hbk⟩:∃b,f.blocks[k]=b:=⟨_,rfl⟩
   have hget:f.blocks[k]?=some b:=by rw[qi hk2,hbk]
   have hb2:=(hf.2.2.2.2 b (hbk▸qm hk2)).2.2.1
   refine zg<|zd<|zj<|ah<|za (bx k ji ju Z Z Z hget)<|ac Y4 ju Z Z<|y5 (cs:=[.str ⟨#[]⟩,.raw (.slice none 0 0),.raw (.slice none 0 0),.int .i64 0,.int .i64 0,.int .i64 0,.int .i64 0]) Zc Z Z<|fun i5=>zz ju Z Z Z Z Z Z .head Z<|ze (yd (t:=5) Z .head)<|z6<|ah<|aq jg Z Zd Z Z<|aH Zs Z<|zf (C9 b hb2) Z<|z6<|zu Z (fun cq=>?_) (fun cq=>?_)
   ·refine ah<|ao Z<|z6<|zh<|zk (x:=.int _ _) Z ?_
    rw[show fc f=false from Bool.eq_false_iff.2 (cG hk2 (by rw[hbk];simpa using cq))];simp
   ·refine zg<|aV<|aC Z Z<|aa Z<|z6 ?_
    exact ⟨k+1,eZ,aJ,aE,⟨hk2,bt hk2 hall (by rw[hbk];simpa using cq)⟩,by omega⟩
  ·have hkn:k=f.blocks.length:=by simp at ck;omega
   subst hkn
   rw[qn] at hall
   refine y7<|ah<|ao Z<|z6<|zh<|zk (x:=.int _ _) Z ?_
   rw[ht,hs,show fc f=true from hall];rfl
end Go.Proofs.YtdilpodccjlkgaaGreatDoor
namespace Go.Proofs.YtdilpodccjlkgaaGreatDoor
open Go.Proofs.Tryz
structure FrS (E:Int→List Int) (a shut:Int) (n:Nat) (out:List Bool):Prop where
 len:out.length=n
 sound:∀b:Nat,out[b]?=some true→gn E a shut b
def uB (a:Int) (out:List Bool) (shut x:Int):Prop:=x≠shut∧(x=a∨gb out x=true)
instance (a:Int) (out:List Bool) (shut x:Int):Decidable (uB a out shut x):=by unfold uB;infer_instance
def w8 (E:Int→List Int) (a shut:Int) (out:List Bool) (k:Nat):Prop:=∀x:Nat,x<k→uB a out shut x→∀y:Nat,(y:Int)∈E x→(y:Int)≠shut→gb out y=true
def D6 (E:Int→List Int) (a shut:Int) (out:List Bool) (x j:Nat):Prop:=uB a out shut x→∀y:Nat,y<j→(y:Int)∈E x→(y:Int)≠shut→gb out y=true
def kX (out:List Bool):Nat:=(out.filter fun b=>!b).length
theorem zO (out:List Bool) (k:Nat):gb out (k:Int)=(out[k]?).getD false:=rfl
theorem kj {out:List Bool} {k:Nat} (h:k<out.length):out[k]?=some (gb out k):=by
 rw[zO,qi h];rfl
theorem FrS.begin (E:Int→List Int) (a shut:Int) (n:Nat):FrS E a shut n (List.replicate n false):=⟨by simp,fun b h=>by
 rw[List.getElem?_replicate] at h;split at h<;>simp at h⟩
theorem FrS.set {E:Int→List Int} {a shut:Int} {n:Nat} {out:List Bool} (h:FrS E a shut n out) {x y:Nat} (hx:uB a out shut x) (ha:a≠shut∨(x:Int)≠a) (he:(y:Int)∈E x) (hy:(y:Int)≠shut):FrS E a shut n (out.set y true):=by
 refine ⟨by rw[List.length_set];exact h.len,fun b hb=>?_⟩
 by_cases e:b=y
 ·subst e
  refine gn.step (x:=x) ?_ he hy
  rcases hx.2 with e|hg
  ·left
   refine ⟨e,?_⟩
   rw[←e];exact hx.1
  ·right
   by_cases hlt:x<out.length
   ·exact h.sound x (by rw[kj hlt,hg])
   ·rw[zO,List.getElem?_eq_none (by omega)] at hg;simp at hg
 ·rw[List.getElem?_set_ne (fun e2=>e e2.symm)] at hb;exact h.sound b hb
theorem uC {out:List Bool} {y:Nat} (hy:y<out.length) (h:gb out y=false):kX (out.set y true)+1=kX out:=ir out y (by rw[kj hy,h])
structure D7 (E:Int→List Int) (a shut:Int) (n:Nat) (o0 out:List Bool) (again:Bool):Prop extends FrS E a shut n out where
 less:kX out≤kX o0
 more:again=true→kX out<kX o0
 same:again=false→out=o0
theorem D7.hit {E:Int→List Int} {a shut:Int} {n:Nat} {o0 out:List Bool} {again:Bool} (h:D7 E a shut n o0 out again) {x y:Nat} (hx:uB a out shut x) (he:(y:Int)∈E x) (hy:(y:Int)≠shut) (hlt:y<n) (hf:gb out y=false):D7 E a shut n o0 (out.set y true) true:=by
 have h1:=uC (out:=out) (y:=y) (by rw[h.len];exact hlt) hf
 have h2:=h.less
 exact { h.toFrS.set hx (by
      by_cases e:(x:Int)=a
      ·left;rw[←e];exact hx.1
      ·exact .inr e) he hy with
     less:=by omega
     more:=fun _=>by omega
     same:=fun e=>by cases e }
theorem FrS.all {E:Int→List Int} {a shut:Int} {n:Nat} {out:List Bool} (hE:fi E n) (ha:a=a∧0≤a∧a<n) (h:FrS E a shut n out) (hc:w8 E a shut out n) (b:Nat) (hb:b<n):gb out b=true↔gn E a shut b:=by
 constructor
 ·intro hg;exact h.sound b (by rw[kj (by rw[h.len];exact hb),hg])
 ·intro hf
  have:=gn.closed (out:=fun x:Int=>0≤x∧x<n∧gb out x=true) (fun x y h1 h2 h3 h4=>by
   have hxr:0≤x∧x<n:=by
    rcases h2 with e|h2
    ·rw[e];exact ha.2
    ·exact ⟨h2.1,h2.2.1⟩
   have hy:=hE.rng x hxr.1 hxr.2 y h3
   have e1:((x.toNat:Nat):Int)=x:=Int.toNat_of_nonneg hxr.1
   have e2:((y.toNat:Nat):Int)=y:=Int.toNat_of_nonneg hy.1
   refine ⟨hy.1,hy.2,?_⟩
   have:=hc x.toNat (by omega) ⟨by rw[e1];exact h1,by
    rw[e1]
    rcases h2 with e|h2
    ·exact .inl e
    ·exact .inr h2.2.2⟩ y.toNat (by rw[e1,e2];exact h3) (by rw[e2];exact h4)
   rwa [e2] at this) hf
  exact this.2.2
open Classical in
noncomputable def jO (E:Int→List Int) (n:Nat) (a shut:Int):List Bool:=(bh n).map fun b=>decide (gn E a shut b)
open Classical in
theorem FrS.eq {E:Int→List Int} {a shut:Int} {n:Nat} {out:List Bool} (hE:fi E n) (ha:0≤a∧a<n) (h:FrS E a shut n out) (hc:w8 E a shut out n):out=jO E n a shut:=by
 refine List.ext_getElem (by rw[h.len];unfold jO;rw[qp,bI]) fun k h1 h2=>?_
 have hk:k<n:=by rw[h.len] at h1;exact h1
 have:=h.all hE ⟨rfl,ha⟩ hc k hk
 have e1:out[k]=gb out k:=by have:=kj h1;rw[qi h1] at this;simpa using this
 have e2:(jO E n a shut)[k]=decide (gn E a shut k):=by
  have h3:(jO E n a shut)[k]?=some (decide (gn E a shut k)):=by unfold jO;rw[qq,dO hk];rfl
  rw[qi h2] at h3
  simpa using h3
 rw[e1,e2]
 by_cases hf:gn E a shut k
 ·rw[qv hf];exact this.2 hf
 ·rw[qw hf];exact Bool.eq_false_iff.2 fun e=>hf (this.1 e)
open Classical in
noncomputable def l4 (E:Int→List Int) (n:Nat) (shut:Int):List Bool:=(bh n).map fun b=>decide (ip E (fun x=>x≠shut) 0 b)
open Classical in
theorem w9 {E:Int→List Int} {n k:Nat} {a shut:Int} (hk:k<n):(jO E n a shut)[k]?=some (decide (gn E a shut k)):=by unfold jO;rw[qq,dO hk];rfl
open Classical in
theorem kY {E:Int→List Int} {n k:Nat} {shut:Int} (hk:k<n):(l4 E n shut)[k]?=some (decide (ip E (fun x=>x≠shut) 0 k)):=by unfold l4;rw[qq,dO hk];rfl
theorem km (E:Int→List Int) (n:Nat) (a shut:Int):(jO E n a shut).length=n:=by unfold jO;rw[qp,bI]
theorem om (E:Int→List Int) (n:Nat) (shut:Int):(l4 E n shut).length=n:=by unfold l4;rw[qp,bI]
open Classical in
theorem xa {E:Int→List Int} {n:Nat} (shut:Int):(jO E n 0 shut).set 0 (decide (shut≠0))=l4 E n shut:=by
 refine List.ext_getElem? fun k=>?_
 by_cases hk:k<n
 ·rw[kY hk]
  have hiff:=yO (E:=E) (shut:=shut) (b:=(k:Int))
  by_cases e:k=0
  ·subst e
   rw[List.getElem?_set_self (by rw[km];exact hk)]
   refine congrArg some (Bool.eq_iff_iff.2 ?_)
   rw[decide_eq_true_iff,decide_eq_true_iff,←hiff]
   constructor
   ·intro h;exact .inl ⟨rfl,h⟩
   ·rintro (⟨_,h⟩|⟨h,_⟩)
    ·exact h
    ·exact absurd rfl h
  ·rw[List.getElem?_set_ne (fun e2=>e e2.symm),w9 hk]
   refine congrArg some (Bool.eq_iff_iff.2 ?_)
   rw[decide_eq_true_iff,decide_eq_true_iff,←hiff]
   constructor
   ·intro h;exact .inr ⟨by omega,h⟩
   ·rintro (⟨h,_⟩|⟨_,h⟩)
    ·omega
    ·exact h
 ·rw[List.getElem?_eq_none (by rw[List.length_set,km];omega),List.getElem?_eq_none (by rw[om];omega)]
end Go.Proofs.YtdilpodccjlkgaaGreatDoor
namespace Go.Proofs.YtdilpodccjlkgaaGreatDoor
open Go.Proofs.Tryz
def iU (v:Nat) (ev:List (Int × f7)):Nat:=(ev.filter fun e=>decide (e.1=(v:Int))).length
theorem kn (v:Nat) (ev:List (Int × f7)) (d:Int) (x:f7):iU v (ev++[(d,x)])=iU v ev+if d=(v:Int) then 1 else 0:=by
 unfold iU;rw[List.filter_append,qo]
 by_cases h:d=(v:Int)<;>simp[h]
theorem sX (f:ad) (v:Nat):(aZ f v).length=iU v (cX f f.blocks.length):=by rw[←lz,qp];rfl
theorem vJ (v:Nat) (ev:List (Int × f7)):iU v ev≤ev.length:=List.length_filter_le _ _
theorem oo {f:ad}:∀{n k:Nat},k≤n→n≤f.blocks.length→cX f k <+: cX f n
 |0,k,h,_=>by rw[show k=0 by omega];exact List.prefix_refl _
 |n+1,k,h,hn=>by
  by_cases e:k=n+1
  ·rw[e];exact List.prefix_refl _
  ·rw[fD (by omega)]
   exact (oo (by omega) (by omega)).trans (List.prefix_append _ _)
theorem zP (i:Nat) (ps:List eJ) (j:Nat):cZ i (ps.take j) <+: cZ i ps:=by
 unfold cZ
 obtain ⟨r,hr⟩:=List.take_prefix j ps
 exact ⟨r.map fun p=>(p.dst,((i:Int),-1)),by rw[←qt,hr]⟩
theorem sY (i:Nat) (xs:List aB):∀(m j:Nat),j≤m→m≤xs.length→fQ i (xs.take j) <+: fQ i (xs.take m)
 |0,j,h,_=>by rw[show j=0 by omega];exact List.prefix_refl _
 |m+1,j,h,hm=>by
  by_cases e:j=m+1
  ·rw[e];exact List.prefix_refl _
  ·rw[gY i (by omega)]
   exact (sY i xs m j (by omega) (by omega)).trans (List.prefix_append _ _)
theorem BI {f:ad} {k j:Nat} {b:aN} (hk:k<f.blocks.length) (hb:f.blocks[k]=b) (hj:j<b.phis.length):(cX f k++cZ k (b.phis.take j))++[(b.phis[j].dst,((k:Int),(-1:Int)))] <+: cX f f.blocks.length:=by
 refine List.IsPrefix.trans ?_ (oo (show k+1≤f.blocks.length by omega) (Nat.le_refl _))
 rw[fD hk,hb,qk,←kh k hj,n7]
 exact (List.prefix_append_right_inj _).2 ((zP k b.phis (j+1)).trans (List.prefix_append _ _))
theorem zQ {f:ad} {k j:Nat} {b:aN} (hk:k<f.blocks.length) (hb:f.blocks[k]=b) (hj:j<b.insts.length) (h0:0≤b.insts[j].dst):(cX f k++cZ k b.phis++fQ k (b.insts.take j))++[(b.insts[j].dst,((k:Int),(j:Int)))] <+: cX f f.blocks.length:=by
 refine List.IsPrefix.trans ?_ (oo (show k+1≤f.blocks.length by omega) (Nat.le_refl _))
 have h:=gY k hj
 rw[if_pos h0] at h
 rw[fD hk,hb,qk,←h,n7,qk]
 have h2:=sY k b.insts b.insts.length (j+1) (by omega) (Nat.le_refl _)
 rw[qn] at h2
 exact (List.prefix_append_right_inj _).2 ((List.prefix_append_right_inj _).2 h2)
theorem pU {f:ad} {v:Nat} {pre:List (Int × f7)} {x:f7} (hp:pre++[((v:Int),x)] <+: cX f f.blocks.length) (h0:iU v pre=0):aF f v=x:=by
 obtain ⟨r,hr⟩:=hp
 have h1:pre.filter (fun e=>decide (e.1=(v:Int)))=[]:=List.eq_nil_of_length_eq_zero h0
 unfold aF
 rw[←lz,←hr,List.filter_append,List.filter_append,h1]
 simp
theorem uD {f:ad} {v:Nat} (h0:iU v (cX f f.blocks.length)=0):aF f v=(-1,0):=by
 unfold aF
 rw[←lz,List.eq_nil_of_length_eq_zero h0]
 rfl
noncomputable section
def dW (f:ad) (m:f7) (b at_:Int):Bool:=by
 classical exact if m.1<0 then true else if m.1=b then decide (m.2<at_) else !decide (ip (ae f) (fun x=>x≠m.1) 0 b)
def DE (f:ad) (p:eJ):Bool:=(p.args.zip p.from_).all fun q=>dW f (aF f q.1) q.2 (fY f q.2)
def DF (f:ad) (i:Nat) (x:aB × Nat):Bool:=x.1.args.all fun v=>dW f (aF f v) i x.2
def DG (f:ad) (i:Nat) (b:aN):Bool:=decide (b.term.kind=0)||dW f (aF f b.term.var) i b.insts.length
def mS (f:ad) (i:Nat) (b:aN):Bool:=by
 classical exact decide (rI (ae f) (i:Int))&&(b.phis.all (DE f)&&(b.insts.zipIdx.all (DF f i)&&DG f i b))
def DH (f:ad) (i:Nat):Bool:=((f.blocks[i]?).map (mS f i)).getD true
def g9 (f:ad):Bool:=cH f&&(kD f&&(List.range f.blocks.length).all (DH f))
end
theorem l5 {f:ad} {i:Nat} {b:aN} (h:f.blocks[i]?=some b):DH f i=mS f i b:=by unfold DH;rw[h];rfl
theorem l6 {f:ad} (hE:bE f) (m:f7) {b:Int} (at_:Int) (hb:rI (ae f) b):dW f m b at_=er f m b at_:=by
 rw[qr,gv hE]
 unfold dW go
 by_cases h0:m.1<0
 ·rw[if_pos h0];simp[h0]
 ·rw[if_neg h0]
  by_cases h1:m.1=b
  ·rw[if_pos h1];simp[h1];omega
  ·rw[if_neg h1]
   simp only[Bool.not_eq_true',decide_eq_false_iff_not]
   constructor
   ·intro h;exact .inr (.inr ⟨by omega,h1,hb,h⟩)
   ·rintro (h|h|h)
    ·exact absurd h h0
    ·exact absurd h.1 h1
    ·exact h.2.2.2
theorem zR {f:ad} (hE:bE f) (hfr:∀b∈f.blocks,∀p∈b.phis,∀c∈p.from_,0≤c∧c<f.blocks.length):g9 f=cQ f:=by
 unfold g9 cQ
 by_cases hA:yQ f
 ·have hall:(fC (ae f) f.blocks.length).contains false=false:=(kU hE).2 hA
  rw[hall]
  have hrch:∀c:Int,0≤c→c<f.blocks.length→rI (ae f) c:=fun c h0 h1=>by
   have:=hA c.toNat (by omega)
   rwa [show ((c.toNat:Nat):Int)=c by omega] at this
  have:(List.range f.blocks.length).all (DH f)=ut f:=by
   unfold ut
   rw[qr,qy,qy]
   refine forall_congr' fun i=>?_
   constructor
   all_goals
    intro h hi
    have hi2:=List.mem_range.1 hi
    have h:=h hi
    have hget:f.blocks[i]?=some f.blocks[i]:=qi hi2
    have hmem:=qm hi2
    have e1:f.blocks[i].phis.all (DE f)=f.blocks[i].phis.all (C7 f):=by
     rw[qr,qy,qy]
     refine forall_congr' fun p=>forall_congr' fun hp=>?_
     unfold DE C7
     rw[qy,qy]
     refine forall_congr' fun q=>forall_congr' fun hq=>?_
     have hc:=hfr _ hmem p hp q.2 (List.of_mem_zip hq).2
     rw[l6 hE _ _ (hrch q.2 hc.1 hc.2)]
    have e2:f.blocks[i].insts.zipIdx.all (DF f i)=f.blocks[i].insts.zipIdx.all (zJ f i):=by
     rw[qr,qy,qy]
     refine forall_congr' fun x=>forall_congr' fun _=>?_
     unfold DF zJ
     rw[qy,qy]
     refine forall_congr' fun v=>forall_congr' fun _=>?_
     rw[l6 hE _ _ (hA i hi2)]
    have e3:DG f i f.blocks[i]=DD f i f.blocks[i]:=by unfold DG DD;rw[l6 hE _ _ (hA i hi2)]
    have e:mS f i f.blocks[i]=pd f i f.blocks[i]:=by
     unfold mS pd;rw[e1,e2,e3];simp[hA i hi2,Bool.and_assoc]
    first
     |(rw[l5 hget,e] at h;rw[ob hget];exact h)
     |(rw[ob hget,←e] at h;rw[l5 hget];exact h)
  rw[this]
  simp
 ·have h1:(fC (ae f) f.blocks.length).contains false=true:=by
   cases h:(fC (ae f) f.blocks.length).contains false with
   |true=>rfl
   |false=>exact absurd ((kU hE).1 h) hA
  have h2:(List.range f.blocks.length).all (DH f)=false:=by
   rw[Bool.eq_false_iff]
   intro h
   apply hA
   intro i hi
   have:=List.all_eq_true.1 h i (List.mem_range.2 hi)
   rw[l5 (qi hi)] at this
   unfold mS at this
   simp only[qx,w1] at this
   exact this.1
  rw[h1,h2]
  simp
end Go.Proofs.YtdilpodccjlkgaaGreatDoor
namespace Go.Proofs.YtdilpodccjlkgaaGreatDoor
open Go.Proofs.Tryz
theorem eV {v i:Int} {b:aN} {m:f7}:m∈mo v i b↔(∃p∈b.phis,p.dst=v∧m=(i,-1))∨∃(k:Nat) (x:aB),b.insts[k]?=some x∧x.dst=v∧m=(i,(k:Int)):=by
 unfold mo
 rw[List.mem_append]
 constructor
 ·rintro (h|h)
  ·obtain ⟨p,hp,e⟩:=List.mem_map.1 h
   obtain ⟨h1,h2⟩:=List.mem_filter.1 hp
   exact .inl ⟨p,h1,by simpa using h2,e.symm⟩
  ·obtain ⟨q,hq,e⟩:=List.mem_map.1 h
   obtain ⟨h1,h2⟩:=List.mem_filter.1 hq
   obtain ⟨x,k⟩:=q
   have:=List.mem_zipIdx_iff_getElem?.1 h1
   exact .inr ⟨k,x,this,by simpa using h2,e.symm⟩
 ·rintro (⟨p,h1,h2,rfl⟩|⟨k,x,h1,h2,rfl⟩)
  ·exact .inl (List.mem_map.2 ⟨p,List.mem_filter.2 ⟨h1,by simpa using h2⟩,rfl⟩)
  ·exact .inr (List.mem_map.2 ⟨(x,k),List.mem_filter.2 ⟨List.mem_zipIdx_iff_getElem?.2 h1,by simpa using h2⟩,rfl⟩)
theorem dI {f:ad} {v:Int} {m:f7}:m∈aZ f v↔∃(i:Nat) (b:aN),f.blocks[i]?=some b∧m∈mo v i b:=by
 unfold aZ
 rw[List.mem_flatMap]
 constructor
 ·rintro ⟨⟨b,i⟩,h1,h2⟩;exact ⟨i,b,List.mem_zipIdx_iff_getElem?.1 h1,h2⟩
 ·rintro ⟨i,b,h1,h2⟩;exact ⟨(b,i),List.mem_zipIdx_iff_getElem?.2 h1,h2⟩
theorem xb {f:ad} {v:Int} (h:0≤(aF f v).1):aF f v∈aZ f v:=by
 unfold aF at h ⊢
 cases hm:aZ f v with
 |nil=>rw[hm] at h;simp at h
 |cons x l=>simp
theorem oq {f:ad} {v:Int} {m:f7} (hl:(aZ f v).length≤1) (h:m∈aZ f v):aF f v=m:=by
 unfold aF
 cases hm:aZ f v with
 |nil=>rw[hm] at h;cases h
 |cons x l=>
  rw[hm] at h hl
  cases l with
  |nil=>simp at h;simp[h]
  |cons y l=>simp at hl
theorem sZ {f:ad} {v:Int} (h:0≤(aF f v).1):∃(i:Nat) (b:aN),f.blocks[i]?=some b∧((∃p∈b.phis,p.dst=v∧aF f v=((i:Int),-1))∨∃(k:Nat) (x:aB),b.insts[k]?=some x∧x.dst=v∧aF f v=((i:Int),(k:Int))):=by
 obtain ⟨i,b,h1,h2⟩:=dI.1 (xb h)
 exact ⟨i,b,h1,eV.1 h2⟩
theorem pV {f:ad} {v:Int} (h:¬0≤(aF f v).1):aF f v=(-1,0):=by
 unfold aF at h ⊢
 cases hm:aZ f v with
 |nil=>rfl
 |cons x l=>
  exfalso
  obtain ⟨i,b,h1,h2⟩:=dI.1 (show x∈aZ f v by rw[hm];exact .head _)
  rw[hm] at h
  rcases eV.1 h2 with ⟨p,_,_,e⟩|⟨k,y,_,_,e⟩
  ·rw[e] at h;simp at h
  ·rw[e] at h;simp at h
end Go.Proofs.YtdilpodccjlkgaaGreatDoor
namespace Go.Proofs.YtdilpodccjlkgaaGreatDoor
open Go.Proofs.Tryz
end Go.Proofs.YtdilpodccjlkgaaGreatDoor
namespace Go.Proofs.YtdilpodccjlkgaaGreatDoor
open Go.Proofs.Tryz
def CA (q:Int):Prop:=21≤q∧q≤23
instance (q:Int):Decidable (CA q):=by unfold CA;infer_instance
end Go.Proofs.YtdilpodccjlkgaaGreatDoor
namespace Go.Proofs.YtdilpodccjlkgaaGreatDoor
open Go.Proofs.Tryz
end Go.Proofs.YtdilpodccjlkgaaGreatDoor
namespace Go.Proofs.YtdilpodccjlkgaaGreatDoor
open Go.Proofs.Tryz
section
variable {n:Nat} {rule:List e7→Int→e7} {vs:List Int} {phi:Int→Prop} {rank:Int→Nat}
end
section
variable {n:Nat} {rule:List e7→Int→e7} {vs:List Int} {phi:Int→Prop} {t:Int→e7}
end
end Go.Proofs.YtdilpodccjlkgaaGreatDoor
namespace Go.Proofs.YtdilpodccjlkgaaGreatDoor
open Go.Proofs.Tryz
structure GS where
 ints:List Int
 bools:List Bool
 arrs:List Int
 arrays:List (List Int)
 blk:Int
 pc:Nat
 en:Int
 val:Int
 tr:Int
 trace:List Int
 st:Nat
 ck:Nat→Nat
 ended:Bool
def vi (l:List Int) (v:Int):Int:=(l[v.toNat]?).getD 0
def bB (x:aB):Int:=(x.args[0]?).getD 0
def cK (x:aB):Int:=(x.args[1]?).getD 0
def Da (s:GS) (a:Int):List Int:=(s.arrays[a.toNat]?).getD []
def Db (s:GS) (a i:Int):Bool:=decide (0≤a∧a<s.arrays.length∧0≤i∧i<(Da s a).length)
def EE (l:List Int) (ints:List Int):Int:=if 1<l.length then vi ints ((l[1]?).getD 0) else 0
def D8 (s:GS) (op:Int) (l:List Int):Bool:=
 if op=18 then Db s (vi s.arrs ((l[0]?).getD 0)) (EE l s.ints)
 else if op=19 then decide (0≤vi s.arrs ((l[0]?).getD 0))
 else if op=20 then decide (vi s.ints ((l[0]?).getD 0)≠0)
 else if op=21 then decide (e8 0 (vi s.ints ((l[0]?).getD 0)) (EE l s.ints))
 else if op=22 then decide (e8 1 (vi s.ints ((l[0]?).getD 0)) (EE l s.ints))
 else if op=23 then decide (e8 2 (vi s.ints ((l[0]?).getD 0)) (EE l s.ints))
 else decide (0≤vi s.ints ((l[0]?).getD 0)∧vi s.ints ((l[0]?).getD 0)≤64)
def Fi (s:GS) (d v:Int):GS:={ s with ints:=s.ints.set d.toNat v }
def Fj (s:GS) (d:Int) (v:Bool):GS:={ s with bools:=s.bools.set d.toNat v }
def Fk (s:GS) (d v:Int):GS:={ s with arrs:=s.arrs.set d.toNat v }
def ET (a b:Int):Int:=IntKind.i64.wrap (a.tdiv b)
def EU (a b:Int):Int:=if b=-1 then 0 else IntKind.i64.wrap (a - IntKind.i64.wrap (IntKind.i64.wrap (a.tdiv b)*b))
def aG (s:GS) (x:aB):Int:=vi s.ints (bB x)
def bG (s:GS) (x:aB):Int:=vi s.ints (cK x)
def pG (s:GS) (x:aB):Bool:=gb s.bools (bB x)
def qG (s:GS) (x:aB):Bool:=gb s.bools (cK x)
def rG (s:GS) (x:aB):Int:=vi s.arrs (bB x)
def iC (f:ad) (b:Int):aN:=(f.blocks[b.toNat]?).getD ⟨⟨#[]⟩,[],[],⟨2,0,0,0⟩⟩
def zS (p:eJ) (b:Int):Int:=((p.from_.zip p.args).find? fun q=>decide (q.1=b)).elim (-1) (·.2)
def assign (s t:GS) (p:eJ):GS:=Fk (Fj (Fi t p.dst (vi s.ints (zS p s.blk))) p.dst (gb s.bools (zS p s.blk))) p.dst (vi s.arrs (zS p s.blk))
theorem uE {α:Type} {l:List α} {n:Nat} {a x:α} (h:x∈l.set n a):x∈l∨x=a:=List.mem_or_eq_of_mem_set h
theorem kZ {f:ad} {v:Int} (h:aT f v=true):v<f.vars.length∧0≤v:=by
 unfold aT at h;simp at h;exact ⟨h.2,h.1⟩
theorem cW.a0 {f:ad} {x:aB} (h:cW f x) (hl:0<x.args.length):bB x<f.vars.length∧0≤bB x:=by
 unfold bB;rw[qi hl];exact kZ (h.args _ (qm hl))
theorem cW.a1 {f:ad} {x:aB} (h:cW f x) (hl:1<x.args.length):cK x<f.vars.length∧0≤cK x:=by
 unfold cK;rw[qi hl];exact kZ (h.args _ (qm hl))
theorem Dc:∀j:Nat,j<27→(bo (j:Int)).length=([0,1,2,2,2,2,2,2,2,2,1,2,1,2,3,1,0,1,2,1,1,2,2,2,1,2,2][j]?).getD 0:=by decide
theorem cW.argc {f:ad} {x:aB} (h:cW f x):x.args.length=([0,1,2,2,2,2,2,2,2,2,1,2,1,2,3,1,0,1,2,1,1,2,2,2,1,2,2][x.op.toNat]?).getD 0:=by
 have h1:=h.op
 obtain ⟨j,e⟩:∃j:Nat,x.op=(j:Int):=⟨x.op.toNat,by omega⟩
 rw[h.len,e,Dc j (by omega),Int.toNat_natCast]
theorem zT:∀j:Nat,j<27→dU (j:Int)=([true,true,true,true,true,true,true,true,true,true,true,true,true,true,false,true,true,false,false,false,false,false,false,false,false,true,true][j]?).getD false:=by decide
theorem cW.made {f:ad} {x:aB} (h:cW f x) (hm:([true,true,true,true,true,true,true,true,true,true,true,true,true,true,false,true,true,false,false,false,false,false,false,false,false,true,true][x.op.toNat]?).getD false=true):x.dst<f.vars.length∧0≤x.dst:=by
 have h1:=h.op
 obtain ⟨j,e⟩:∃j:Nat,x.op=(j:Int):=⟨x.op.toNat,by omega⟩
 rw[e,Int.toNat_natCast,←zT j (by omega),←e] at hm
 rcases h.dst with g|g
 ·rw[g.1] at hm;cases hm
 ·exact kZ g.2.2
structure D9 (f:ad):Prop where
 pos:0<f.blocks.length
 phis:∀b∈f.blocks,∀p∈b.phis,ui f p
 insts:∀b∈f.blocks,∀x∈b.insts,cW f x∧dG x.num
 term:∀b∈f.blocks,bv f b.term=true
theorem BJ {f:ad} {b:Int} (h0:0≤b) (h1:b<f.blocks.length):f.blocks[b.toNat]?=some (iC f b):=by
 unfold iC;rw[qi (by omega)];rfl
theorem BK {f:ad} {b:Int} (h0:0≤b) (h1:b<f.blocks.length):iC f b∈f.blocks:=qs (BJ h0 h1)
end Go.Proofs.YtdilpodccjlkgaaGreatDoor
namespace Go.Proofs.YtdilpodccjlkgaaGreatDoor
open Go.Proofs.Tryz
end Go.Proofs.YtdilpodccjlkgaaGreatDoor
namespace Go.Proofs.YtdilpodccjlkgaaGreatDoor
open Go.Proofs.Tryz
def V (s:GS) (v:Int):Int × Bool × Int:=(vi s.ints v,gb s.bools v,vi s.arrs v)
inductive Act where
 |stop (e:Int)
 |i (v:Int)
 |b (v:Bool)
 |a (v:Int)
 |all (v:Int × Bool × Int)
 |row (l:List (List Int))
 |new (l:List (List Int)) (v:Int)
 |out (l:List Int)
end Go.Proofs.YtdilpodccjlkgaaGreatDoor
namespace Go.Proofs.YtdilpodccjlkgaaGreatDoor
open Go.Proofs.Tryz
def Ea (op:Int):Bool:=decide (op=0∨(2≤op∧op≤12)∨op=16)
def Eb (op:Int):Bool:=decide (op=2∨op=4∨op=7∨op=11)
def s5 (r:Int→Int) (x:aB):aB:=⟨x.op,x.dst,x.args.map r,x.num⟩
def zU (x y:aB):Bool:=Ea x.op&&(decide (x.op=y.op∧x.num=y.num)&&(decide (x.args=y.args)||(Eb x.op&&(decide (x.args.length=2)&&decide (x.args=y.args.reverse)))))
def Dd (f:ad) (i k:Nat) (x:aB):Prop:=∃b,f.blocks[i]?=some b∧b.insts[k]?=some x
def iD (f:ad) (i k:Nat) (x:aB):Prop:=Dd f i k x∧Ea x.op=true
def gy (f:ad) (i' k' i k:Nat):Prop:=go f ((i':Int),(k':Int)) i k
structure Ec (f:ad) (r:Int→Int):Prop where
 id:∀v,(∀i k x,iD f i k x→x.dst≠v)→r v=v
 rt:∀i k y,iD f i k y→r y.dst=y.dst∨∃i' k' x,iD f i' k' x∧gy f i' k' i k∧r x.dst=x.dst∧r y.dst=x.dst∧zU (s5 r x) (s5 r y)=true
 no:∀i k y i' k' x,iD f i k y→iD f i' k' x→gy f i' k' i k→r x.dst=x.dst→r y.dst=y.dst→zU (s5 r x) (s5 r y)=false
structure EV (f:ad) (rk:Nat→Nat→Nat):Prop where
 less:∀i k y i' k' x,iD f i k y→iD f i' k' x→gy f i' k' i k→rk i' k'<rk i k
 arg:∀i k y a i' k' x,iD f i k y→a∈y.args→iD f i' k' x→x.dst=a→gy f i' k' i k
 total:∀i k y i1 k1 x1 i2 k2 x2,iD f i k y→iD f i1 k1 x1→iD f i2 k2 x2→gy f i1 k1 i k→gy f i2 k2 i k→gy f i1 k1 i2 k2∨gy f i2 k2 i1 k1∨(i1=i2∧k1=k2)
 trans:∀i k y i1 k1 x1 i2 k2 x2,iD f i k y→iD f i1 k1 x1→iD f i2 k2 x2→gy f i1 k1 i2 k2→gy f i2 k2 i k→gy f i1 k1 i k
 made:∀i k y i1 k1 x1,iD f i k y→iD f i1 k1 x1→x1.dst=y.dst→i1=i∧k1=k
theorem xc {N:Int→Int} {b a:Int} (h:fU N b a):∀c,fU N b c→fU N a c∨fU N c a:=by
 induction h with
 |refl=>exact fun c hc=>.inl hc
 |up h1 h2 h3 ih=>
  intro c hc
  rcases hc.cases' with e|⟨_,_,g⟩
  ·rw[e];exact .inr (.up h1 h2 h3)
  ·exact ih c g
theorem xd {E:Int→List Int} {n:Nat} (hG:fi E n) {a b c:Int} (h:gV E a b) (k:gV E c b):gV E c a∨gV E a c:=by
 have hb:b∈aA E n:=(bL hG.toEOk b).2 h.1
 have ha:a∈aA E n:=(bL hG.toEOk a).2 h.rch
 have hc:c∈aA E n:=(bL hG.toEOk c).2 k.rch
 rcases xc ((hG.dom_iff hb).1 h) c ((hG.dom_iff hb).1 k) with g|g
 ·exact .inl ((hG.dom_iff ha).2 g)
 ·exact .inr ((hG.dom_iff hc).2 g)
end Go.Proofs.YtdilpodccjlkgaaGreatDoor
namespace Go.Proofs.YtdilpodccjlkgaaGreatDoor
open Go.Proofs.Tryz
theorem zV {E:Int→List Int} {n:Nat} (hG:fi E n) {a b:Int} (h:gV E a b) (k:gV E b a):a=b:=by
 have hb:b∈aA E n:=(bL hG.toEOk b).2 h.1
 have ha:a∈aA E n:=(bL hG.toEOk a).2 k.1
 have l1:=hG.lev_anc hb ((hG.dom_iff hb).1 h)
 have l2:=hG.lev_anc ha ((hG.dom_iff ha).1 k)
 exact l1.2.2 l2.2.1
def Av (f:ad) (b k:Int) (v:Int):Prop:=go f (aF f v) b k
section
variable {f:ad} (hE:bE f)
include hE
end
theorem dJ {f:ad} {v:Int} (h:0≤(aF f v).1):∃(i:Nat) (b:aN),f.blocks[i]?=some b∧(aF f v).1=i∧((∃p∈b.phis,p.dst=v∧(aF f v).2=-1)∨∃(k:Nat) (x:aB),b.insts[k]?=some x∧x.dst=v∧(aF f v).2=k):=by
 obtain ⟨i,b,h1,h2⟩:=sZ h
 refine ⟨i,b,h1,?_,?_⟩
 ·rcases h2 with ⟨p,_,_,e⟩|⟨k,x,_,_,e⟩<;>rw[e]
 ·rcases h2 with ⟨p,h3,h4,e⟩|⟨k,x,h3,h4,e⟩
  ·exact .inl ⟨p,h3,h4,by rw[e]⟩
  ·exact .inr ⟨k,x,h3,h4,by rw[e]⟩
structure Ed (f:ad):Prop where
 inst:∀(i k:Nat) (b:aN) (x:aB),f.blocks[i]?=some b→b.insts[k]?=some x→0≤x.dst→aF f x.dst=((i:Int),(k:Int))
 phi:∀(i:Nat) (b:aN) (p:eJ),f.blocks[i]?=some b→p∈b.phis→aF f p.dst=((i:Int),-1)
theorem BL {f:ad} (ho:mq f) (hi:∀b∈f.blocks,∀x∈b.insts,x.dst<f.vars.length) (hp:∀b∈f.blocks,∀p∈b.phis,0≤p.dst∧p.dst<f.vars.length):Ed f:=by
 have len:∀d:Int,0≤d→d<f.vars.length→(aZ f d).length≤1:=fun d h0 h1=>by
  have:=(ho d.toNat (by omega)).1
  rwa [show ((d.toNat:Nat):Int)=d by omega] at this
 refine ⟨fun i k b x h1 h2 h0=>?_,fun i b p h1 h2=>?_⟩
 ·exact oq (len _ h0 (hi b (qs h1) x (qs h2))) (dI.2 ⟨i,b,h1,eV.2 (.inr ⟨k,x,h2,rfl,rfl⟩)⟩)
 ·obtain ⟨g0,g1⟩:=hp b (qs h1) p h2
  exact oq (len _ g0 g1) (dI.2 ⟨i,b,h1,eV.2 (.inl ⟨p,h2,rfl,rfl⟩)⟩)
theorem pW {f:ad} {i:Nat} {b:aN} (h:f.blocks[i]?=some b):fY f (i:Int)=b.insts.length:=by
 unfold fY;rw[show ((i:Int)).toNat=i from rfl,h];rfl
end Go.Proofs.YtdilpodccjlkgaaGreatDoor
