/- Numbers without the same told twice: what is so of the roots, and that there is but one answer. Plain law. No conditions. -/
import Derived.Test.YtdilpodccjlkgaaGreatDoorHl
import Derived.Test.YtdilpodccjlkgaaGreatDoorHe
import Derived.Test.YtdilpodccjlkgaaGreatDoorHj
import Derived.Test.YtdilpodccjlkgaaGreatDoorHf
import Derived.Test.YtdilpodccjlkgaaGreatDoorHi
import Derived.Test.YtdilpodccjlkgaaGreatDoorHc
set_option linter.unusedVariables false
set_option linter.unusedSimpArgs false
set_option linter.unusedSectionVars false
namespace Go.Proofs.YtdilpodccjlkgaaGreatDoor
open Go.Proofs.Tryz
open Go.Proofs Go.Lib Go.Shelf Go.RowKit
theorem BB:cX prog 77 #[(0,1),(1,1)] [.int .i64 0,.int .i64 0]:=⟨_,_,Zp,zeroValue77,fun w=>by kernel_rfl,rfl⟩
theorem mS:cU prog 69 77 1 2 [.int .i64 0,.int .i64 0]:=⟨_,Zt,Yh,zeroValue77,by decide,by decide,by kernel_rfl⟩
variable {E:World}
set_option maxRecDepth 20000
theorem b8.dstPhi {f:ad} (h:b8 f) {b:aY} (hb:b∈f.blocks) {p:e7} (hp:p∈b.phis):0≤p.dst∧p.dst<f.vars.length:=by
 have:=((h.2.2.2.2.2 b hb).1 p hp).1
 simpa [aZ] using this
theorem b8.dstInst {f:ad} (h:b8 f) {b:aY} (hb:b∈f.blocks) {x:aF} (hx:x∈b.insts) (h0:0≤x.dst):x.dst<f.vars.length:=by
 rcases (gp ((h.2.2.2.2.2 b hb).2.1 x hx)).dst with ⟨_,d⟩|⟨_,_,d⟩
 ·omega
 ·have:0≤x.dst∧x.dst<f.vars.length:=by simpa [aZ] using d
  exact this.2
theorem small.evs {f:ad} (hf:small f) {k:Nat} (hk:k≤f.blocks.length):(dz f k).length≤2000000:=by
 have h1:=ud (m:=2000) (fun b hb=>by have:=hf.2.2.2.2 b hb;have h2:=this.2.1;have h3:=this.2.2.1;omega) k hk
 have:=hf.2.2.1
 omega
set_option maxHeartbeats 4000000 in
theorem nj (f:ad) (hf:small f) (hS:b8 f):aR prog E 63 [.agg (bD f)] []
  fun x O=>∃b:Nat,x=eb b f.vars.length∧O=[(0,du eP 69 77 b (o6 f))]:=by
 have hv:=hf.1
 have hn:=hf.2.2.1
 refine zq func63 U (by decide) U<|ae<|y9 (cs:=_) U U U<|bF U<|z6<|ae<|ao jg U Y4 U U<|aI Yb U<|ar Z7 U<|yd (m:=f.vars.length) Y5 type69 U U U U U (by simp) (by simp) (by show (24:Int)*_≤_;omega) (by omega) eP 77<|fun b13=>za (qc (v:=eb _ _) U)<|z6<|zd<|ae<|ao jg U Z6 U U<|aI Zd U<|ar jk U<|aa U<|z6<|zj<|y8 (γ:=Nat) [3,15,16] (fun k=>[(17,.int .i64 k)]) (fun k=>[(0,du eP 69 77 b13 (cF f.vars.length (dz f k)))]) (fun k=>k≤f.blocks.length) (fun k=>f.blocks.length - k) 0 aH ⟨_,(.refl _),by rw[oY];rfl⟩ (qn _) ?_
 rintro k hk
 refine ae<|ax U U<|z6<|zd<|zu U (fun ck=>?_) (fun ck=>?_)
 ·have hk2:k<f.blocks.length:=by simp at ck;omega
  obtain ⟨b,hbk⟩:∃b,f.blocks[k]=b:=⟨_,rfl⟩
  have hget:f.blocks[k]?=some b:=by rw[qk hk2,hbk]
  have hmem:b∈f.blocks:=hbk▸qo hk2
  obtain ⟨hb0,hb1,hb2,hb3,hb4⟩:=hf.2.2.2.2 b hmem
  have hevl:=hf.evs hk
  refine zg<|zd<|zj<|ae<|aa U<|za (bh k jk Z0 U U U hget)<|ac Yk Z0 U U<|y6 (cs:=[.str ⟨#[]⟩,.raw (.slice none 0 0),.raw (.slice none 0 0),.int .i64 0,.int .i64 0,.int .i64 0,.int .i64 0]) Zn U U<|fun i5=>ap U<|y1 Z0 U U U U U U .head U<|zf (yf (t:=5) U .head)<|z6<|zd<|ae<|ao jj U Yg U U<|aI Ys U<|ar Z5 U<|aa U<|z6<|zj<|y8 (γ:=Nat) [3,4,5,15,16,17,23,24] (fun j=>[(25,.int .i64 j)]) (fun j=>[(0,du eP 69 77 b13 (cF f.vars.length (dz f k++dC k (b.phis.take j))))]) (fun j=>j≤b.phis.length) (fun j=>b.phis.length - j) 0 aH ⟨_,(.refl _),by rw[show dC k (b.phis.take 0)=[] from rfl,qw]⟩ (qn _) ?_
  rintro j hj
  refine ae<|ax U U<|z6<|zd<|zu U (fun cj=>?_) (fun cj=>?_)
  ·have hj2:j<b.phis.length:=by simp at cj;omega
   obtain ⟨p,hp⟩:∃p,b.phis[j]=p:=⟨_,rfl⟩
   obtain ⟨hd0,hdn⟩:=hS.dstPhi hmem (hp▸qo hj2)
   obtain ⟨rows,hrows⟩:∃rows,cF f.vars.length (dz f k++dC k (b.phis.take j))=rows:=⟨_,rfl⟩
   have hdl:p.dst.toNat<(cF f.vars.length (dz f k++dC k (b.phis.take j))).length:=by rw[cP];omega
   have hrl:=iX hdl
   have hsucc:=ks (x:=((k:Int),(-1:Int))) hd0 hdl
   have hrn:=cP f.vars.length (dz f k++dC k (b.phis.take j))
   have hel:(dz f k++dC k (b.phis.take j)).length≤2001000:=by rw[qq,dC,qr,List.length_take];omega
   rw[qm,show dC k (b.phis.take j)++[(p.dst,((k:Int),(-1:Int)))]=dC k (b.phis.take (j+1)) by rw[kY k hj2,hp]] at hsucc
   simp only[hrows] at hdl hrl hsucc hrn
   rw[hrows]
   refine zg<|zd<|zj<|ae<|za (bh j Z5 Zf U U U (by rw[qk hj2,hp])) ?_
   refine ac X0 Zf U U<|y6 (cs:=[.int .i64 0,.raw (.slice none 0 0),.raw (.slice none 0 0)]) Yc U U<|fun i7=>y1 Zf U U U U U U .head U<|zf (yf (t:=7) U .head)<|z6<|ya (γ:=Unit) [3,4,5,15,16,17,23,24,25] (fun u=>[]) (fun u=>[(0,du eP 69 77 b13 (rows.set p.dst.toNat (rows[p.dst.toNat]++[((k:Int),-1)])))]) (fun u=>True) ?_ (fun _ _ h=>h) ?_
   ·refine zw (fun j=>Nat.beq j 13) (by kernel_rfl) U (zh (.rest _))<|ak 0 U (yt (v:=eb _ _) U)<|ak 1 U (bx Z3 U j6 U U)<|ak 2 U (b7 j7 U)<|ak 3 U (yt (v:=eb _ _) U)<|ak 4 U (bx Z3 U j6 U U)<|ak 5 U (b7 j7 U)<|ak 6 U (qh (j:=p.dst.toNat) Y5 Yi U U (by omega) (by omega))<|ak 8 U (dq U)<|ak 9 U (y5 (cps:=[(0,[_]),(1,[_])]) (rs:=[_,_]) BB U U U)<|yq (i:=7) (j:=10) U U (by kernel_rfl) ?_ ?_
    ·refine q8 (j:=p.dst.toNat) (r:=rows[p.dst.toNat]) X5 U (qk hdl) (fun _=>.head)<|fun i36=>z6<|ba 10 U<|y4 (rows:=[[_,_]]) mS U U U U U<|z6<|ba 11 U<|yj (k:=2) Zt type77 U U U U U (fun _=>.head) (by rw[eP.av_len];rfl) (by decide) U (by show (_+1)*16≤_;omega) (by show _+1≤_;omega)<|fun i40=>z6<|ak 12 U (qh (j:=p.dst.toNat) Y5 Yi U U (by omega) (by omega))<|ym<|yi (i:=13) U (by kernel_rfl) (by kernel_rfl)<|qi (j:=p.dst.toNat) (r:=rows[p.dst.toNat]++[((k:Int),-1)]) Yi U U (by omega) .head .head U (eP.av_push rows[p.dst.toNat] ((k:Int),(-1:Int))) (by simp)<|z6<|yo (by kernel_rfl) ?_
     exact ⟨(),n8,trivial,aD,trivial⟩
    ·refine y4 (rows:=[[_,_]]) mS U U U U U<|z6<|ba 7 U<|q8 (j:=p.dst.toNat) (r:=rows[p.dst.toNat]) X5 U (qk hdl) (fun _=>.head)<|fun i36=>z6<|ba 11 U<|yj (k:=2) Zt type77 U U U U U (fun _=>.head) (by rw[eP.av_len];rfl) (by decide) U (by show (_+1)*16≤_;omega) (by show _+1≤_;omega)<|fun i40=>z6<|ak 12 U (qh (j:=p.dst.toNat) Y5 Yi U U (by omega) (by omega))<|ym<|yi (i:=13) U (by kernel_rfl) (by kernel_rfl)<|qi (j:=p.dst.toNat) (r:=rows[p.dst.toNat]++[((k:Int),-1)]) Yi U U (by omega) .head .head U (eP.av_push rows[p.dst.toNat] ((k:Int),(-1:Int))) (by simp)<|z6<|yo (by kernel_rfl) ?_
     exact ⟨(),n8,trivial,aD,trivial⟩
   ·rintro _ _
    refine aO<|aC U U<|aa U<|z6 ?_
    exact ⟨j+1,pS,aH,⟨_,(.refl _),by rw[hsucc]⟩,hj2,by omega⟩
  ·have hjn:j=b.phis.length:=by simp at cj;omega
   subst hjn
   rw[qp]
   refine y7<|ae<|ao jj U Zo U U<|aI Zx U<|ar jz U<|aa U<|z6<|zj<|y8 (γ:=Nat) [3,4,15,16,17,44,45] (fun j=>[(46,.int .i64 j)]) (fun j=>[(0,du eP 69 77 b13 (cF f.vars.length (dz f k++dC k b.phis++f6 k (b.insts.take j))))]) (fun j=>j≤b.insts.length) (fun j=>b.insts.length - j) 0 aH ⟨_,(.refl _),by rw[show f6 k (b.insts.take 0)=[] from rfl,qw]⟩ (qn _) ?_
   rintro j hj
   refine ae<|ax U U<|z6<|zd<|zu U (fun cj=>?_) (fun cj=>?_)
   ·have hj2:j<b.insts.length:=by simp at cj;omega
    obtain ⟨p,hp⟩:∃p,b.insts[j]=p:=⟨_,rfl⟩
    have hev:=iF k hj2
    rw[hp] at hev
    refine zg<|zd<|zj<|ae<|aa U<|za (bh j jz jv U U U (by rw[qk hj2,hp])) ?_
    refine ac Zk jv U U<|y6 (cs:=[.int .i64 0,.int .i64 0,.raw (.slice none 0 0),.int .i64 0]) Z4 U U<|fun i9=>ap U<|y1 jv U U U U U U .head U<|zf (yf (t:=9) U .head)<|z6<|ae<|ao j5 U j6 U U<|ay j7 U<|za (yy U U)<|z6<|zy U (fun cd=>?_) (fun cd=>?_)
    ·have hd0:0≤p.dst:=by simpa using cd
     have hdn:=hS.dstInst hmem (hp▸qo hj2) hd0
     rw[if_pos hd0] at hev
     obtain ⟨rows,hrows⟩:∃rows,cF f.vars.length (dz f k++dC k b.phis++f6 k (b.insts.take j))=rows:=⟨_,rfl⟩
     have hdl:p.dst.toNat<(cF f.vars.length (dz f k++dC k b.phis++f6 k (b.insts.take j))).length:=by rw[cP];omega
     have hrl:=iX hdl
     have hsucc:=ks (x:=((k:Int),(j:Int))) hd0 hdl
     have hrn:=cP f.vars.length (dz f k++dC k b.phis++f6 k (b.insts.take j))
     have hel:(dz f k++dC k b.phis++f6 k (b.insts.take j)).length≤2002000:=by
      have:=o5 k (b.insts.take j)
      rw[List.length_take] at this
      rw[qq,qq,dC,qr];omega
     rw[qm (dz f k++dC k b.phis) (f6 k (b.insts.take j)) [(p.dst,((k:Int),(j:Int)))],←hev] at hsucc
     simp only[hrows] at hdl hrl hsucc hrn
     rw[hrows]
     refine ya (γ:=Unit) [3,4,15,16,17,44,45,46] (fun u=>[]) (fun u=>[(0,du eP 69 77 b13 (rows.set p.dst.toNat (rows[p.dst.toNat]++[((k:Int),(j:Int))])))]) (fun u=>True) ?_ (fun _ _ h=>h) ?_
     ·refine zw (fun j=>Nat.beq j 14) (by kernel_rfl) U (zh (.rest _))<|ak 0 U (yt (v:=eb _ _) U)<|ak 1 U (bx j5 U j6 U U)<|ak 2 U (b7 j7 U)<|ak 3 U (yt (v:=eb _ _) U)<|ak 4 U (bx j5 U j6 U U)<|ak 5 U (b7 j7 U)<|ak 6 U (qh (j:=p.dst.toNat) Y5 Yi U U (by omega) (by omega))<|ak 8 U (dq U)<|ak 9 U (dq U)<|ak 10 U (y5 (cps:=[(0,[_]),(1,[_])]) (rs:=[_,_]) BB U U U)<|yq (i:=7) (j:=11) U U (by kernel_rfl) ?_ ?_
      ·refine q8 (j:=p.dst.toNat) (r:=rows[p.dst.toNat]) X5 U (qk hdl) (fun _=>.head)<|fun i61=>z6<|ba 11 U<|y4 (rows:=[[_,_]]) mS U U U U U<|z6<|ba 12 U<|yj (k:=2) Zt type77 U U U U U (fun _=>.head) (by rw[eP.av_len];rfl) (by decide) U (by show (_+1)*16≤_;omega) (by show _+1≤_;omega)<|fun i66=>z6<|ak 13 U (qh (j:=p.dst.toNat) Y5 Yi U U (by omega) (by omega))<|ym<|yi (i:=14) U (by kernel_rfl) (by kernel_rfl)<|qi (j:=p.dst.toNat) (r:=rows[p.dst.toNat]++[((k:Int),(j:Int))]) Yi U U (by omega) .head .head U (eP.av_push rows[p.dst.toNat] ((k:Int),(j:Int))) (by simp)<|z6<|yo (by kernel_rfl) ?_
       exact ⟨(),pS,trivial,aD,trivial⟩
      ·refine y4 (rows:=[[_,_]]) mS U U U U U<|z6<|ba 7 U<|q8 (j:=p.dst.toNat) (r:=rows[p.dst.toNat]) X5 U (qk hdl) (fun _=>.head)<|fun i61=>z6<|ba 12 U<|yj (k:=2) Zt type77 U U U U U (fun _=>.head) (by rw[eP.av_len];rfl) (by decide) U (by show (_+1)*16≤_;omega) (by show _+1≤_;omega)<|fun i66=>z6<|ak 13 U (qh (j:=p.dst.toNat) Y5 Yi U U (by omega) (by omega))<|ym<|yi (i:=14) U (by kernel_rfl) (by kernel_rfl)<|qi (j:=p.dst.toNat) (r:=rows[p.dst.toNat]++[((k:Int),(j:Int))]) Yi U U (by omega) .head .head U (eP.av_push rows[p.dst.toNat] ((k:Int),(j:Int))) (by simp)<|z6<|yo (by kernel_rfl) ?_
       exact ⟨(),pS,trivial,aD,trivial⟩
     ·rintro _ _
      refine aO<|aC U U<|aa U<|z6 ?_
      exact ⟨j+1,lf,aH,⟨_,(.refl _),by rw[hsucc]⟩,hj2,by omega⟩
    ·have hd0:¬0≤p.dst:=by simpa using cd
     rw[if_neg hd0,qw] at hev
     refine zg<|aO<|aC U U<|aa U<|z6 ?_
     exact ⟨j+1,lf,aH,⟨_,(.refl _),by rw[hev]⟩,hj2,by omega⟩
   ·have hjn:j=b.insts.length:=by simp at cj;omega
    subst hjn
    rw[qp]
    refine y7<|aO<|aC U U<|aa U<|z6 ?_
    exact ⟨k+1,de,aH,⟨_,(.refl _),by rw[fR hk2,hbk,oZ,qm]⟩,hk2,by omega⟩
 ·have hkn:k=f.blocks.length:=by simp at ck;omega
  subst hkn
  refine y7<|ae<|za (yt (v:=eb _ _) U)<|za (qc (v:=eb _ _) U)<|z6<|zi<|zm (x:=eb _ _) U ?_
  exact ⟨b13,rfl,rfl⟩
end Go.Proofs.YtdilpodccjlkgaaGreatDoor
namespace Go.Proofs.YtdilpodccjlkgaaGreatDoor
open Go.Proofs.Tryz
open Go.Proofs Go.Lib Go.Shelf Go.RowKit
variable {E:World}
set_option maxRecDepth 20000
theorem eW {f:ad} (h:bj f=true):b8 f:=by
 unfold bj at h
 rw[qz,gL] at h
 exact w4 h.1
theorem G5 (l:List gH):((eP.av l++[AV.int .i64 (-1),AV.int .i64 0]).drop 0).take 2=[AV.int .i64 (l.head?.getD (-1,0)).1,AV.int .i64 (l.head?.getD (-1,0)).2]:=by cases l<;>rfl
theorem sy {f:ad} (hf:small f) {v:Nat} (h:v<f.vars.length):(bu f v).length≤2000000:=by
 have h1:=eG (dz f f.blocks.length) h
 have h2:v<(cF f.vars.length (dz f f.blocks.length)).length:=by rw[cP];exact h
 have h3:=iX h2
 have h4:=hf.evs (Nat.le_refl _)
 rw[qk h2,mi] at h1
 rw[Option.some.inj h1] at h3
 omega
theorem kw (f:ad) (hf:small f) (hL:bB E) (ht:bj f=true):aK prog E 34 [.agg (bD f)] (.fro 2 ((cE f).map eP.row)):=by
 have hv:=hf.1
 refine zq func34 U (by decide) U<|ae<|y9 (cs:=_) U U U<|bF U<|z6<|zd<|ae<|ac ju jf U U<|ze (oV f hf hL) U<|aM U U<|z6<|yg U (by rw[ht];rfl)<|zg<|ae<|bF U<|z6<|zd<|ae<|ac ju jf U U<|zr U (zh (.rest _)) (nj f hf (eW ht)) ?_
 rintro r10 O10 ⟨b10,rfl,rfl⟩
 refine za (Gv.lenN Y5 U)<|aa U<|z6<|fo (t:=3) (k:=2) (T:=77) U<|fun i3=>y3 (aX.nestTail .t1)<|zj<|y8 (γ:=Nat × Nat) [10,11] (fun g=>[(12,.int .i64 g.1),(3,.own g.2 g.1)]) (fun g=>[(g.2,.grow 2 77 (((cE f).take g.1).map eP.row).flatten),(0,wO eP 69 77 b10 (o6 f) g.1)]) (fun g=>g.1≤f.vars.length) (fun g=>f.vars.length - g.1) (0,i3) cV aD (qn _) ?_
 rintro ⟨k,i3⟩ hk
 try dsimp only at *
 refine ae<|ax U U<|z6<|zd<|zu U (fun ck=>?_) (fun ck=>?_)
 ·have hk2:k<f.vars.length:=by simp at ck;omega
  have hml:=sy hf hk2
  have hmt:(cE f)[k]?=some (aL f k):=nf hk2
  have hkm:k<(cE f).length:=by rw[ku];exact hk2
  have hmk:(cE f)[k]=aL f k:=by rw[qk hkm] at hmt;exact Option.some.inj hmt
  refine zg<|zd<|zj<|ae<|za (qh (j:=k) Y5 Yi U U U (by omega))<|az.nestShift X5 U (o7 hk2) .t1<|fun i15=>za (gZ U)<|z6<|ae<|bz U<|za (y5 (cps:=[(0,[_]),(1,[_])]) (rs:=[_,_]) BB U U U)<|y4 (rows:=[[_,_]]) mS U U U U U<|yj (k:=2) Zt type77 U U U U U (fun _=>.head) (by rw[eP.av_len];rfl) (by decide) U (by show (_+1)*16≤_;omega) (by show _+1≤_;omega)<|fun i19=>za (gZ U)<|z6<|aO<|bz U<|bz U<|za (Gv.idxO (j:=0) Zt Yh U U U ⟨_,.head⟩ (by simp) (by show 0<_+1;omega))<|za (Gv.loadAG (l:=[_,_]) isAgg77 Yh U ⟨_,.head⟩ (by simp) (by simp) (G5 _))<|y4 (rows:=[[_,_]]) mS U U U U U<|yj (k:=2) Zt type77 U U U U U (fun _=>.t1) (by rw[l5 (k:=2) (fun _=>rfl),List.length_take,Nat.min_eq_left (by omega)]) (by decide) U (by show (_+1)*16≤_;omega) (by show _+1≤_;omega)<|fun i25=>za (gZ U)<|z6<|y3 (aX.drop .head)<|aO<|aC U U<|aa U<|z6 ?_
  exact ⟨(k+1,i25),cV,cV,⟨_,(.refl _),by rw[←kM (ql hkm),hmk];rfl⟩,hk2,by dsimp only;omega⟩
 ·have hkn:k=f.vars.length:=by simp at ck;omega
  subst hkn
  rw[show (cE f).take f.vars.length=cE f by rw[←ku f,qp]]
  refine y7<|ae<|bz U<|za (gZ U)<|z6<|zi ?_
  repeat (first|refine fM ?_|refine ez ?_)
  refine ye (aX.know (t:=2) (rows:=(cE f).map eP.row) U .head (by first|(intro r hr;obtain ⟨x,_,rfl⟩:=List.mem_map.1 hr;rfl)|simp[cW,fq,eN,aP,cZ]) (by decide) (by rw[qr,ku]))<|zm (x:=.fro _ _) U ?_
  rfl
theorem zH (f:ad) (hf:small f) (hS:b8 f):aK prog E 95 [.agg (bD f)] (.bool (ll f)):=by
 have hv:=hf.1
 refine zq func95 U (by decide) U<|ae<|y9 (cs:=_) U U U<|ab U<|z6<|zd<|ae<|ac ju jf U U<|zr U (zh (.rest _)) (nj f hf hS) ?_
 rintro r6 O6 ⟨b6,rfl,rfl⟩
 refine za (Gv.lenN Y5 U)<|aa U<|z6<|y3 (aX.nestKnow (s:=6) U .head (vN f))<|zj<|y8 (γ:=Nat) [1,6,7] (fun k=>[(8,.int .i64 k)]) (fun k=>[]) (fun k=>k≤f.vars.length∧(List.range k).all (iG f)=true) (fun k=>f.vars.length - k) 0 aH aD (⟨qn _,U⟩) ?_
 rintro k ⟨hk,hall⟩
 refine ae<|ax U U<|z6<|zd<|zu U (fun ck=>?_) (fun ck=>?_)
 ·have hk2:k<f.vars.length:=by simp at ck;omega
  refine zg<|zd<|zj<|ae<|aa U<|za (bh k Y5 Yi U U U (o7 hk2))<|aI X5 U<|ap U<|za (kO U)<|z6<|ae<|aT U<|ar Zt U<|bb U U<|aj U<|zo (s:=16) U (fun c1=>?_) (fun c1=>?_)
  ·have d1:1<(bu f k).length:=by have h0:(1:Int)<((bu f k).length:Int):=(by simpa using c1);omega
   refine z7 U U c1<|z7 U U c1<|z7 U U c1<|z7 U U c1<|zk U U<|zk U U<|zk U U<|zk U U<|zk U U<|z7 U U c1<|aq U c1 U<|z6<|yl U U<|ae<|ab U<|z6<|zi<|zm (x:=.bool _) U ?_
   rw[show ll f=false from dP hk2 (by unfold iG;simp[d1])]
  ·have d1:¬1<(bu f k).length:=by have h0:¬(1:Int)<((bu f k).length:Int):=(by simpa using c1);omega
   refine z8 U U c1<|aT U<|z8 U U c1<|ar Zt U<|z8 U U c1<|bb U U<|z8 U U c1<|aj U<|zo (s:=20) U (fun c2=>?_) (fun c2=>?_)
   ·have d2:bu f k≠[]:=by have h0:0<(bu f k).length:=(by simpa using c2);exact List.ne_nil_of_length_pos h0
    refine z8 U U c2<|aa U<|z8 U U c2<|ao jg U j8 U U<|z8 U U c2<|aI j9 U<|z8 U U c2<|ar wz U<|z8 U U c2<|ax U U<|z8 U U c1<|aq U c2 U<|au U c1 U<|z6<|zy U (fun c3=>?_) (fun c3=>?_)
    ·have d3:k<f.params.length:=by simpa using c3
     refine ae<|ab U<|z6<|zi<|zm (x:=.bool _) U ?_
     rw[show ll f=false from dP hk2 (by unfold iG;simp[d2,d3,List.length_pos_iff])]
    ·have d3:¬k<f.params.length:=by simpa using c3
     refine zg<|aO<|aC U U<|aa U<|z6 ?_
     exact ⟨k+1,de,aH,aD,⟨hk2,cO hall (by unfold iG;simp[d1,d3])⟩,by omega⟩
   ·have d2:bu f k=[]:=by simpa using c2
    refine z7 U U c2<|z7 U U c2<|z7 U U c2<|z7 U U c2<|z7 U U c2<|z8 U U c1<|au U c2 U<|au U c1 U<|z6<|yg U U<|zg<|aO<|aC U U<|aa U<|z6 ?_
    exact ⟨k+1,de,aH,aD,⟨hk2,cO hall (by unfold iG;simp[d2])⟩,by omega⟩
 ·have hkn:k=f.vars.length:=by simp at ck;omega
  subst hkn
  refine y7<|ae<|ab U<|z6<|zi<|zm (x:=.bool _) U ?_
  rw[show ll f=true from hall]
end Go.Proofs.YtdilpodccjlkgaaGreatDoor
namespace Go.Proofs.YtdilpodccjlkgaaGreatDoor
open Go.Proofs.Tryz
open Go.Proofs Go.Lib Go.Shelf Go.RowKit
variable {E:World}
set_option maxRecDepth 20000
theorem nG {p:Int→Bool} {fn:FuncId} {c:List AV} (xs:List Int) (hl:xs.length≤281474976710656) (hp:∀x∈xs,aK prog E fn ([.int .i64 x]++c) (.bool (p x))) :
  aK prog E 162 [.fro 1 (xs.map cW),.fn fn [] c] (.int .i64 (cK p xs 0)):=by
 refine zq func162 U (by decide) U<|ae<|ap U<|z6<|zd<|ae<|aT U<|ar wz U<|aa U<|z6<|zj<|y8 (γ:=Nat) [0,1,7] (fun k=>[(8,.int .i64 k)]) (fun k=>[]) (fun k=>k≤xs.length∧(xs.take k).all (fun x=>!p x)) (fun k=>xs.length - k) 0 aH aD (⟨qn _,U⟩) ?_
 rintro k ⟨hk,hall⟩
 refine ae<|ax U U<|z6<|zd<|zu U (fun ck=>?_) (fun ck=>?_)
 ·have hk2:k<xs.length:=by simp at ck;omega
  refine zg<|zd<|zj<|ae<|aa U<|ap U<|z6<|ae<|za (yt (v:=.fn _ _ _) U)<|aT U<|aa U<|za (bh k wz j6 U U U (qk hk2))<|ay j7 U<|az.callVP U (hp _ (qo hk2)) U<|z6<|zy U (fun cp=>?_) (fun cp=>?_)
  ·refine ae<|aa U<|ap U<|z6<|zi<|zm (x:=.int _ _) U ?_
   rw[bK p xs k hk hall,List.drop_eq_getElem_cons hk2,cK,if_pos cp]
  ·refine zg<|aO<|aC U U<|aa U<|z6 ?_
   exact ⟨k+1,de,aH,aD,⟨hk2,by rw[ql hk2,List.all_append,hall];simp[cp]⟩,by omega⟩
 ·have hkn:k=xs.length:=by simp at ck;omega
  refine y7<|ae<|ap U<|z6<|zi<|zm (x:=.int _ _) U ?_
  rw[bK p xs k hk hall,hkn,List.drop_length,cK]
theorem lH {p:Int→Bool} {fn:FuncId} {c:List AV} (xs:List Int) (hl:xs.length≤281474976710656) (hp:∀x∈xs,aK prog E fn ([.int .i64 x]++c) (.bool (p x))) :
  aK prog E 131 [.fro 1 (xs.map cW),.fn fn [] c] (.bool (xs.any p)):=by
 refine zq func131 U (by decide) U<|ae<|ab U<|z6<|ae<|aT U<|za (yt (v:=.fn _ _ _) U)<|ze (nG xs hl hp) U<|za (yy U U)<|ab U<|z6<|zi<|zm (x:=.bool _) U ?_
 rw[eK]
theorem lI (f:ad) (hE:bV f) (hn:f.blocks.length≤1000) (m:gH) (b a:Int) (x y:AV):aK prog E 130 [mj f x y,.agg [.int .i64 m.1,.int .i64 m.2],.int .i64 b,.int .i64 a] (.bool (eQ f m b a)):=by
 refine zq func130 U (by decide) U<|ae<|y9 (cs:=_) U U U<|ab U<|z6<|zd<|zj<|ae<|ao Zp U j6 U U<|ay j7 U<|ax U U<|ab U<|z6<|zu U (fun c0=>?_) (fun c0=>?_)
 ·refine ae<|ab U<|z6<|zi<|zm (x:=.bool _) U ?_
  rw[eQ,if_pos c0]
 ·refine ae<|ao Zp U j6 U U<|ay j7 U<|aa U<|ai U U<|ab U<|z6<|zy U (fun c1=>?_) (fun c1=>?_)
  ·have d1:m.1=b:=by simpa using c1
   refine ae<|ao Zp U j6 U U<|ay j7 U<|aa U<|ax U U<|ab U<|z6<|zi<|zm (x:=.bool _) U ?_
   rw[eQ,if_neg c0,if_pos d1]
  ·have d1:¬m.1=b:=by simpa using c1
   refine zg<|ae<|bg U<|ao Zp U j6 U U<|ay j7 U<|aa U<|ze (zE f hE hn m.1 b x y) U<|ab U<|z6<|zi<|zm (x:=.bool _) U ?_
   rw[eQ,if_neg c0,if_neg d1]
theorem fS {f:ad} {v:Int} (h:aZ f v=true):0≤v∧(cE f)[v.toNat]?=some (aL f v):=by
 have h1:0≤v∧v<f.vars.length:=by simpa [aZ] using h
 refine ⟨h1.1,?_⟩
 have:=nf (f:=f) (v:=v.toNat) (by omega)
 rwa [show ((v.toNat:Nat):Int)=v by omega] at this
theorem sA (f:ad) (hE:bV f) (hn:f.blocks.length≤1000) (i k:Nat) (v:Int) (hv:aZ f v=true) (x y:AV) :
  aK prog E 132 ([.int .i64 v]++[.pf [mj f x y],.pf [.fro 2 ((cE f).map eP.row)],.pf [.int .i64 i],.pf [.int .i64 k]]) (.bool (!eQ f (aL f v) i k)):=by
 obtain ⟨hv0,hvg⟩:=fS hv
 refine zq func132 U (by decide) U<|ae<|ab U<|z6<|zd<|zw (fun j=>false) (by kernel_rfl) U (zh (.rest _))<|ak 0 U (yn (c:=.pf _) isAgg68 U)<|ak 1 U (dx X5 U)<|ak 2 U (dq U)<|ak 3 U (bh v.toNat Zt Yh U U (by omega) hvg)<|ak 4 U (yr isAgg77 Yh U U)<|ak 5 U (b7 j7 U)<|ak 6 U (b7 j7 U)<|ba 7 U<|ze (lI f hE hn (aL f v) i k x y) U<|z6<|ak 8 U (Gv.not U)<|ak 9 U (lT U)<|bY<|zi<|zm (x:=.bool _) U ?_
 rfl
theorem ur (x:aF):aK prog E 57 ([.agg (aP x)]++[]) (.bool (decide (x.op=25)||decide (x.op=26))):=by
 refine zq func57 U (by decide) U<|ae<|y9 (cs:=_) U U U<|ab U<|z6<|ae<|ao j5 U jy U U<|ay Z2 U<|ai U U<|aj U<|zo (s:=6) U (fun c1=>?_) (fun c1=>?_)
 ·refine z7 U U c1<|z7 U U c1<|z7 U U c1<|aq U c1 U<|ab U<|z6<|zi<|zm (x:=.bool _) U ?_
  simp_all
 ·refine z8 U U c1<|ao j5 U jy U U<|z8 U U c1<|ay Z2 U<|z8 U U c1<|ai U U<|au U c1 U<|ab U<|z6<|zi<|zm (x:=.bool _) U ?_
  simp_all
theorem EY (b:aY) (hl:b.insts.length≤1000):aK prog E 56 [.fro 4 (b.insts.map aP),.fn 57 [] []] (.bool (b.insts.any fun x=>decide (x.op=25)||decide (x.op=26))):=gJ b.insts (by omega) (fun x _=>ur x)
set_option maxHeartbeats 4000000 in
theorem ut (f:ad) (hE:bV f) (hf:small f) (hS:b8 f) (i:Nat) (hi:i<f.blocks.length) (x y:AV) :
  aK prog E 96 [.agg (bD f),mj f x y,.fro 2 ((cE f).map eP.row),.int .i64 i] (.bool (F5 f i)):=by
 have hn:=hf.2.2.1
 obtain ⟨b,hbk⟩:∃b,f.blocks[i]=b:=⟨_,rfl⟩
 have hget:f.blocks[i]?=some b:=by rw[qk hi,hbk]
 have hmem:b∈f.blocks:=hbk▸qo hi
 obtain ⟨hb0,hb1,hb2,hb3,hb4⟩:=hf.2.2.2.2 b hmem
 obtain ⟨hPh,hIn,hTm⟩:=hS.2.2.2.2.2 b hmem
 rw[o8 hget]
 refine zq func96 U (by decide) U<|ae<|y9 (cs:=_) U U U<|y9 (cs:=[_]) U U U<|y9 (cs:=[_]) U U U<|y9 (cs:=[_]) U U U<|ab U<|z6<|ae<|ao jg U Z6 U U<|aI Zd U<|ay j7 U<|za (bh i jk Z0 U U U hget)<|ac Yk Z0 U U<|y6 (cs:=[.str ⟨#[]⟩,.raw (.slice none 0 0),.raw (.slice none 0 0),.int .i64 0,.int .i64 0,.int .i64 0,.int .i64 0]) Zn U U<|fun i9=>y1 Z0 U U U U U U .head U<|zf (yf (t:=9) U .head)<|z6<|zd<|ae<|ao jj U Yg U U<|aI Ys U<|ar Z5 U<|aa U<|z6<|zj<|y8 (γ:=Nat) [4,5,6,7,9,23,24] (fun j=>[(25,.int .i64 j)]) (fun j=>[]) (fun j=>j≤b.phis.length∧(b.phis.take j).all (EW f)=true) (fun j=>b.phis.length - j) 0 aH aD (⟨qn _,U⟩) ?_
 rintro j ⟨hj,hjall⟩
 refine ae<|ax U U<|z6<|zd<|zu U (fun cj=>?_) (fun cj=>?_)
 ·have hj2:j<b.phis.length:=by simp at cj;omega
  obtain ⟨p,hp⟩:∃p,b.phis[j]=p:=⟨_,rfl⟩
  have hpm:p∈b.phis:=hp▸qo hj2
  obtain ⟨hpd,hpl,hpn,hpa,hpf⟩:=hPh p hpm
  have hpb:=hb3 p hpm
  refine zg<|zd<|zj<|ae<|za (bh j Z5 Zf U U U (by rw[qk hj2,hp])) ?_
  refine ac X0 Zf U U<|y6 (cs:=[.int .i64 0,.raw (.slice none 0 0),.raw (.slice none 0 0)]) Yc U U<|fun i11=>y1 Zf U U U U U U .head U<|zf (yf (t:=11) U .head)<|z6<|ae<|ao Z3 U j8 U U<|aI j9 U<|ar wz U<|aa U<|z6<|zj<|y8 (γ:=Nat) [4,5,6,7,9,11,23,24,25,30,31] (fun k=>[(32,.int .i64 k)]) (fun k=>[]) (fun k=>k≤p.args.length∧((p.args.zip p.from_).take k).all (fun q=>eQ f (aL f q.1) q.2 (iC f q.2))=true) (fun k=>p.args.length - k) 0 aH aD (⟨qn _,U⟩) ?_
  rintro k ⟨hk,hkall⟩
  refine ae<|ax U U<|z6<|zd<|zu U (fun ck=>?_) (fun ck=>?_)
  ·have hk2:k<p.args.length:=by simp at ck;omega
   have hk3:k<p.from_.length:=by omega
   obtain ⟨v,hv⟩:∃v,p.args[k]=v:=⟨_,rfl⟩
   obtain ⟨c,hc⟩:∃c,p.from_[k]=c:=⟨_,rfl⟩
   obtain ⟨hv0,hvg⟩:=fS (List.all_eq_true.1 hpa v (hv▸qo hk2))
   have hcr:0≤c∧c<f.blocks.length:=by have:=List.all_eq_true.1 hpf c (hc▸qo hk3);simpa [eO] using this
   obtain ⟨d,hd⟩:∃d,f.blocks[c.toNat]'(by omega)=d:=⟨_,rfl⟩
   have hdg:f.blocks[c.toNat]?=some d:=by rw[qk (by omega),hd]
   have hla:iC f c=d.insts.length:=by unfold iC;rw[hdg];rfl
   have hz:k<(p.args.zip p.from_).length:=by rw[List.length_zip];omega
   have hzk:(p.args.zip p.from_)[k]=(v,c):=by rw[List.getElem_zip,hv,hc]
   refine zg<|zd<|zj<|ae<|aa U<|za (bh k wz j6 U U U (by rw[qk hk2,hv])) ?_
   refine ay j7 U<|ap U<|ap U<|z6<|ae<|ao Z3 U j8 U U<|aI j9 U<|aa U<|za (bh k wz j6 U U U (by rw[qk hk3,hc])) ?_
   refine ay j7 U<|ap U<|z6<|zd<|zw (fun j=>false) (by kernel_rfl) U (zh (.rest _))<|ak 0 U (yn (c:=.pf _) isAgg68 U)<|ak 1 U (dx X5 U)<|ak 2 U (dq U)<|ak 3 U (bh v.toNat Zt Yh U U (by omega) hvg)<|ak 4 U (yr isAgg77 Yh U U)<|ak 5 U (dq U)<|ak 6 U (bx jg U Z6 U U)<|ak 7 U (dx Zd U)<|ak 8 U (dq U)<|ak 9 U (bh c.toNat jk Z0 U U (by omega) hdg)<|ak 10 U (bx jj U Zo U U)<|ak 11 U (dx Zx U)<|ak 12 U (Gv.lenM jz U)<|ba 13 U<|ze (lI f hE hn (aL f v) c d.insts.length x y) U<|z6<|ak 14 U (Gv.not U)<|bY<|zy U (fun cq=>?_) (fun cq=>?_)
   ·have hq:eQ f (aL f v) c (iC f c)=false:=by rw[hla];simpa using cq
    refine ae<|ab U<|z6<|zi<|zm (x:=.bool _) U ?_
    rw[qD,show b.phis.all (EW f)=false from Bool.eq_false_iff.2 (dh hj2 (by rw[hp];unfold EW;exact Bool.eq_false_iff.2 (dh hz (by rw[hzk];exact hq))))];rfl
   ·have hq:eQ f (aL f v) c (iC f c)=true:=by rw[hla];simpa using cq
    refine zg<|aO<|aC U U<|aa U<|z6 ?_
    exact ⟨k+1,⟨rfl,rfl,rfl,rfl,rfl,rfl,rfl,rfl,rfl,rfl,rfl,trivial⟩,aH,aD,⟨hk2,bN hz hkall (by rw[hzk];exact hq)⟩,by omega⟩
  ·have hkn:k=p.args.length:=by simp at ck;omega
   have hzl:(p.args.zip p.from_).length=p.args.length:=by rw[List.length_zip];omega
   rw[hkn,←hzl,qp] at hkall
   refine y7<|aO<|aC U U<|aa U<|z6 ?_
   exact ⟨j+1,lf,aH,aD,⟨hj2,bN hj2 hjall (by rw[hp];exact hkall)⟩,by omega⟩
 ·have hjn:j=b.phis.length:=by simp at cj;omega
  subst hjn
  rw[qp] at hjall
  refine y7<|zd<|ae<|ao jj U Zo U U<|aI Zx U<|ar jz U<|aa U<|z6<|zj<|y8 (γ:=Nat) [5,6,7,9,60,61] (fun k=>[(62,.int .i64 k)]) (fun k=>[]) (fun k=>k≤b.insts.length∧((b.insts.zipIdx).take k).all (Bw f i)=true) (fun k=>b.insts.length - k) 0 aH aD (⟨qn _,U⟩) ?_
  rintro k ⟨hk,hkall⟩
  refine ae<|ax U U<|z6<|zd<|zu U (fun ck=>?_) (fun ck=>?_)
  ·have hk2:k<b.insts.length:=by simp at ck;omega
   obtain ⟨z,hzk⟩:∃z,b.insts[k]=z:=⟨_,rfl⟩
   have hzm:z∈b.insts:=hzk▸qo hk2
   have hI:=gp (hIn z hzm)
   have hzl:=hb4 z hzm
   have hzi:k<b.insts.zipIdx.length:=by simp;exact hk2
   have hze:b.insts.zipIdx[k]=(z,k):=by simp[hzk]
   refine zg<|zd<|zj<|ae<|aa U<|za (bh k jz jv U U U (by rw[qk hk2,hzk])) ?_
   refine ac Zk jv U U<|y6 (cs:=[.int .i64 0]) Zs U U<|fun i15=>y6 (cs:=[.int .i64 0,.int .i64 0,.raw (.slice none 0 0),.int .i64 0]) Z4 U U<|fun i16=>y1 j6 U U U U U U .t1 U<|zf (yf (t:=15) U .t1)<|y1 jv U U U U U U .head U<|zf (yf (t:=16) U .head)<|z6<|ae<|ao j5 U j8 U U<|aI j9 U<|za (Gv.func U U)<|ze (lH z.args (by omega) (fun v hv=>sA f hE hn i k v (hI.args v hv) x y)) U<|z6<|zy U (fun cq=>?_) (fun cq=>?_)
   ·have hq:Bw f i (z,k)=false:=by
     unfold Bw
     rw[Bool.eq_false_iff];intro h
     obtain ⟨v,hv1,hv2⟩:=List.any_eq_true.1 (show (z.args.any fun v=>!eQ f (aL f v) i k)=true by simpa using cq)
     have:=List.all_eq_true.1 h v hv1
     rw[this] at hv2;cases hv2
    refine ae<|ab U<|z6<|zi<|zm (x:=.bool _) U ?_
    rw[qD,hjall,show b.insts.zipIdx.all (Bw f i)=false from Bool.eq_false_iff.2 (dh hzi (by rw[hze];exact hq))];rfl
   ·have hq:Bw f i (z,k)=true:=by
     unfold Bw
     rw[w3];intro v hv
     have h0:(z.args.any fun v=>!eQ f (aL f v) i k)=false:=by simpa using cq
     have:=List.any_eq_false.1 h0 v hv
     simpa using this
    refine zg<|aO<|aC U U<|aa U<|z6 ?_
    exact ⟨k+1,nu,aH,aD,⟨hk2,bN hzi hkall (by rw[hze];exact hq)⟩,by omega⟩
  ·have hkn:k=b.insts.length:=by simp at ck;omega
   rw[hkn,show b.insts.length=b.insts.zipIdx.length by simp,qp] at hkall
   refine y7<|zd<|zw (fun j=>false) (by kernel_rfl) U (zh (.rest _))<|ak 0 U (bx jj U Zm U U)<|ak 1 U (bx jh U Zz U U)<|ak 2 U (b7 Y8 U)<|ak 3 U (Gv.eqlI U U)<|ak 4 U (l6 U)<|qe (s:=76) U (fun c0=>?_) (fun c0=>?_)
   ·have d0:b.term.kind=0:=by simpa using c0
    refine b9 5 U U U c0<|b9 6 U U U c0<|b9 7 U U U c0<|b9 8 U U U c0<|b9 9 U U U c0<|b9 10 U U U c0<|b9 11 U U U c0<|b9 12 U U U c0<|b9 13 U U U c0<|b9 14 U U U c0<|b9 15 U U U c0<|b9 16 U U U c0<|ak 17 U (ta U c0 U)<|ak 18 U (lT U)<|bY<|zi<|zm (x:=.bool _) U ?_
    rw[qD,hjall,hkall,Fv,d0];rfl
   ·have d0:¬b.term.kind=0:=by simpa using c0
    obtain ⟨hv0,hvg⟩:=fS (iD hTm d0)
    refine cR 5 U U U c0 (yn (c:=.pf _) isAgg68 U)<|cR 6 U U U c0 (dx X5 U)<|cR 7 U U U c0 (bx jj U Zm U U)<|cR 8 U U U c0 (bx jh U j6 U U)<|cR 9 U U U c0 (b7 j7 U)<|cR 10 U U U c0 (bh b.term.var.toNat Zt Yh U U (by omega) hvg)<|cR 11 U U U c0 (yr isAgg77 Yh U U)<|cR 12 U U U c0 (b7 j7 U)<|cR 13 U U U c0 (bx jj U Zo U U)<|cR 14 U U U c0 (dx Zx U)<|cR 15 U U U c0 (Gv.lenM jz U)<|ba 16 U<|z8 U U c0<|ze (lI f hE hn (aL f b.term.var) i b.insts.length x y) U<|z6<|ak 17 U (qU U c0 U)<|ak 18 U (lT U)<|bY<|zi<|zm (x:=.bool _) U ?_
    rw[qD,hjall,hkall,Fv,qy d0];rfl
theorem kx (f:ad) (hf:small f) (hL:bB E):aK prog E 55 [.agg (bD f)] (.int .i64 (if (bj f&&dv f)=true then 0 else 3)):=by
 have hn:=hf.2.2.1
 refine zq func55 U (by decide) U<|ae<|y9 (cs:=_) U U U<|ap U<|z6<|zd<|ae<|ac ju jf U U<|ze (sv f hf hL) U<|aM U U<|aj U<|zo (s:=10) U (fun c1=>?_) (fun c1=>?_)
 ·have d1:(bj f&&di f)=false:=by
   cases h:(bj f&&di f) with
   |false=>rfl
   |true=>rw[h] at c1;simp at c1
  refine z7 U U c1<|z7 U U c1<|z7 U U c1<|aq U c1 U<|aj U<|z7 U U U<|z7 U U U<|z7 U U U<|aq U U U<|z6<|yl U U<|ae<|ap U<|z6<|zi<|zm (x:=.int _ _) U ?_
  rw[show (bj f&&dv f)=false by unfold dv;cases h:bj f<;>simp_all];rfl
 ·have d1:(bj f&&di f)=true:=by
   cases h:(bj f&&di f) with
   |true=>rfl
   |false=>rw[h] at c1;simp at c1
  have ht:bj f=true:=by simp at d1;exact d1.1
  have hj:di f=true:=by simp at d1;exact d1.2
  have hE:=dL ht
  have hS:=eW ht
  refine z8 U U c1<|ac ju jf U U<|z8 U U c1<|ze (ug f hf hL ht) U<|z8 U U c1<|ze (o9 (fQ (ah f) f.blocks.length) false (by rw[oW];omega)) U<|au U c1 U<|aj U<|zo (s:=15) U (fun c2=>?_) (fun c2=>?_)
  ·refine z7 U U c2<|z7 U U c2<|z7 U U c2<|aq U c2 U<|z6<|yl U U<|ae<|ap U<|z6<|zi<|zm (x:=.int _ _) U ?_
   rw[show dv f=false by unfold dv;simp_all];simp
  ·refine z8 U U c2<|ac ju jf U U<|z8 U U c2<|ze (zH f hf hS) U<|z8 U U c2<|aB U<|au U c2 U<|z6<|zy U (fun c3=>?_) (fun c3=>?_)
   ·refine ae<|ap U<|z6<|zi<|zm (x:=.int _ _) U ?_
    rw[show dv f=false by unfold dv;simp_all];simp
   ·refine zg<|ae<|ac ju jf U U<|ze (uq f hf hL ht) U<|bR U<|za (yz (v:=.pf _) U U)<|bJ U U<|za (qc (v:=.pf _) U)<|ap U<|z6<|zd<|ae<|aa U<|aM U U<|z6<|yg U U<|zg<|ae<|ac ju jf U U<|ze (kw f hf hL ht) U<|za (kO U)<|z6<|zd<|ae<|ao jg U Z6 U U<|aI Zd U<|ar jk U<|aa U<|z6<|zj<|y8 (γ:=Nat) [1,3,5,32] (fun k=>[(33,.int .i64 k)]) (fun k=>[]) (fun k=>k≤f.blocks.length∧(List.range k).all (F5 f)=true) (fun k=>f.blocks.length - k) 0 aH aD (⟨qn _,U⟩) ?_
    rintro k ⟨hk,hall⟩
    refine ae<|ax U U<|z6<|zd<|zu U (fun ck=>?_) (fun ck=>?_)
    ·have hk2:k<f.blocks.length:=by simp at ck;omega
     refine zg<|zd<|zj<|ae<|aa U<|ap U<|z6<|ae<|ac ju jf U U<|bg U<|aT U<|aa U<|ze (ut f hE hf hS k hk2 (lg eI (ni f)) .any) U<|aB U<|z6<|zy U (fun cq=>?_) (fun cq=>?_)
     ·refine ae<|ap U<|z6<|zi<|zm (x:=.int _ _) U ?_
      rw[show dv f=false by unfold dv;rw[show vO f=false from dP hk2 (by simpa using cq)];simp];simp
     ·refine zg<|aO<|aC U U<|aa U<|z6 ?_
      exact ⟨k+1,fl,aH,aD,⟨hk2,cO hall (by simpa using cq)⟩,by omega⟩
    ·have hkn:k=f.blocks.length:=by simp at ck;omega
     subst hkn
     refine y7<|ae<|ap U<|z6<|zi<|zm (x:=.int _ _) U ?_
     rw[ht,show dv f=true by unfold dv;rw[show vO f=true from hall];simp_all];rfl
def ij (f:ad):Bool:=f.blocks.all fun b=>!(b.insts.any fun x=>decide (x.op=25)||decide (x.op=26))
theorem ky (f:ad) (hf:small f) (hL:bB E):aK prog E 32 [.agg (bD f)] (.int .i64 (if (bj f&&(dv f&&ij f))=true then 0 else 3)):=by
 have hn:=hf.2.2.1
 refine zq func32 U (by decide) U<|ae<|y9 (cs:=_) U U U<|ap U<|z6<|zd<|ae<|ac ju jf U U<|ze (kx f hf hL) U<|ap U<|z6<|ae<|aa U<|aM U U<|z6<|zy U (fun c1=>?_) (fun c1=>?_)
 ·have d1:(bj f&&dv f)=false:=by
   cases h:(bj f&&dv f) with
   |false=>rfl
   |true=>rw[h] at c1;simp at c1
  refine ae<|aa U<|ap U<|z6<|zi<|zm (x:=.int _ _) U ?_
  rw[d1,show (bj f&&(dv f&&ij f))=false by cases h:bj f<;>simp_all]
 ·have d1:(bj f&&dv f)=true:=by
   cases h:(bj f&&dv f) with
   |true=>rfl
   |false=>rw[h] at c1;simp at c1
  have ht:bj f=true:=by simp at d1;exact d1.1
  have hs:dv f=true:=by simp at d1;exact d1.2
  refine zg<|zd<|ae<|ao jg U Z6 U U<|aI Zd U<|ar jk U<|aa U<|z6<|zj<|y8 (γ:=Nat) [12,13] (fun k=>[(14,.int .i64 k)]) (fun k=>[]) (fun k=>k≤f.blocks.length∧(f.blocks.take k).all (fun b=>!(b.insts.any fun x=>decide (x.op=25)||decide (x.op=26)))=true) (fun k=>f.blocks.length - k) 0 aH aD (⟨qn _,U⟩) ?_
  rintro k ⟨hk,hall⟩
  refine ae<|ax U U<|z6<|zd<|zu U (fun ck=>?_) (fun ck=>?_)
  ·have hk2:k<f.blocks.length:=by simp at ck;omega
   obtain ⟨b,hbk⟩:∃b,f.blocks[k]=b:=⟨_,rfl⟩
   have hget:f.blocks[k]?=some b:=by rw[qk hk2,hbk]
   have hb2:=(hf.2.2.2.2 b (hbk▸qo hk2)).2.2.1
   refine zg<|zd<|zj<|ae<|za (bh k jk Z0 U U U hget)<|ac Yk Z0 U U<|y6 (cs:=[.str ⟨#[]⟩,.raw (.slice none 0 0),.raw (.slice none 0 0),.int .i64 0,.int .i64 0,.int .i64 0,.int .i64 0]) Zn U U<|fun i5=>y1 Z0 U U U U U U .head U<|zf (yf (t:=5) U .head)<|z6<|ae<|ao jj U Zo U U<|aI Zx U<|ze (EY b hb2) U<|z6<|zy U (fun cq=>?_) (fun cq=>?_)
   ·refine ae<|ap U<|z6<|zi<|zm (x:=.int _ _) U ?_
    rw[show ij f=false from Bool.eq_false_iff.2 (dh hk2 (by rw[hbk];simpa using cq))];simp
   ·refine zg<|aO<|aC U U<|aa U<|z6 ?_
    exact ⟨k+1,cV,aH,aD,⟨hk2,bN hk2 hall (by rw[hbk];simpa using cq)⟩,by omega⟩
  ·have hkn:k=f.blocks.length:=by simp at ck;omega
   subst hkn
   rw[qp] at hall
   refine y7<|ae<|ap U<|z6<|zi<|zm (x:=.int _ _) U ?_
   rw[ht,hs,show ij f=true from hall];rfl
end Go.Proofs.YtdilpodccjlkgaaGreatDoor
namespace Go.Proofs.YtdilpodccjlkgaaGreatDoor
open Go.Proofs.Tryz
structure FrS (E:Int→List Int) (a shut:Int) (n:Nat) (out:List Bool):Prop where
 len:out.length=n
 sound:∀b:Nat,out[b]?=some true→gG E a shut b
def vV (a:Int) (out:List Bool) (shut x:Int):Prop:=x≠shut∧(x=a∨gb out x=true)
instance (a:Int) (out:List Bool) (shut x:Int):Decidable (vV a out shut x):=by unfold vV;infer_instance
def zI (E:Int→List Int) (a shut:Int) (out:List Bool) (k:Nat):Prop:=∀x:Nat,x<k→vV a out shut x→∀y:Nat,(y:Int)∈E x→(y:Int)≠shut→gb out y=true
def F7 (E:Int→List Int) (a shut:Int) (out:List Bool) (x j:Nat):Prop:=vV a out shut x→∀y:Nat,y<j→(y:Int)∈E x→(y:Int)≠shut→gb out y=true
def lJ (out:List Bool):Nat:=(out.filter fun b=>!b).length
theorem vW (out:List Bool) (k:Nat):gb out (k:Int)=(out[k]?).getD false:=rfl
theorem jA {out:List Bool} {k:Nat} (h:k<out.length):out[k]?=some (gb out k):=by
 rw[vW,qk h];rfl
theorem FrS.begin (E:Int→List Int) (a shut:Int) (n:Nat):FrS E a shut n (List.replicate n false):=⟨by simp,fun b h=>by
 rw[List.getElem?_replicate] at h;split at h<;>simp at h⟩
theorem FrS.set {E:Int→List Int} {a shut:Int} {n:Nat} {out:List Bool} (h:FrS E a shut n out) {x y:Nat} (hx:vV a out shut x) (ha:a≠shut∨(x:Int)≠a) (he:(y:Int)∈E x) (hy:(y:Int)≠shut):FrS E a shut n (out.set y true):=by
 refine ⟨by rw[List.length_set];exact h.len,fun b hb=>?_⟩
 by_cases e:b=y
 ·subst e
  refine gG.step (x:=x) ?_ he hy
  rcases hx.2 with e|hg
  ·left
   refine ⟨e,?_⟩
   rw[←e];exact hx.1
  ·right
   by_cases hlt:x<out.length
   ·exact h.sound x (by rw[jA hlt,hg])
   ·rw[vW,List.getElem?_eq_none (by omega)] at hg;simp at hg
 ·rw[List.getElem?_set_ne (fun e2=>e e2.symm)] at hb;exact h.sound b hb
theorem vX {out:List Bool} {y:Nat} (hy:y<out.length) (h:gb out y=false):lJ (out.set y true)+1=lJ out:=iT out y (by rw[jA hy,h])
structure F8 (E:Int→List Int) (a shut:Int) (n:Nat) (o0 out:List Bool) (again:Bool):Prop extends FrS E a shut n out where
 less:lJ out≤lJ o0
 more:again=true→lJ out<lJ o0
 same:again=false→out=o0
theorem F8.hit {E:Int→List Int} {a shut:Int} {n:Nat} {o0 out:List Bool} {again:Bool} (h:F8 E a shut n o0 out again) {x y:Nat} (hx:vV a out shut x) (he:(y:Int)∈E x) (hy:(y:Int)≠shut) (hlt:y<n) (hf:gb out y=false):F8 E a shut n o0 (out.set y true) true:=by
 have h1:=vX (out:=out) (y:=y) (by rw[h.len];exact hlt) hf
 have h2:=h.less
 exact { h.toFrS.set hx (by
      by_cases e:(x:Int)=a
      ·left;rw[←e];exact hx.1
      ·exact .inr e) he hy with
     less:=by omega
     more:=fun _=>by omega
     same:=fun e=>by cases e }
theorem FrS.all {E:Int→List Int} {a shut:Int} {n:Nat} {out:List Bool} (hE:eV E n) (ha:a=a∧0≤a∧a<n) (h:FrS E a shut n out) (hc:zI E a shut out n) (b:Nat) (hb:b<n):gb out b=true↔gG E a shut b:=by
 constructor
 ·intro hg;exact h.sound b (by rw[jA (by rw[h.len];exact hb),hg])
 ·intro hf
  have:=gG.closed (out:=fun x:Int=>0≤x∧x<n∧gb out x=true) (fun x y h1 h2 h3 h4=>by
   have hxr:0≤x∧x<n:=by
    rcases h2 with e|h2
    ·rw[e];exact ha.2
    ·exact ⟨h2.1,h2.2.1⟩
   have hy:=hE.rng x hxr.1 hxr.2 y h3
   have e1:((x.toNat:Nat):Int)=x:=Int.toNat_of_nonneg hxr.1
   have e2:((y.toNat:Nat):Int)=y:=Int.toNat_of_nonneg hy.1
   refine ⟨hy.1,hy.2,?_⟩
   have:=hc x.toNat (by omega) ⟨by rw[e1];exact h1,by
    rw[e1]
    rcases h2 with e|h2
    ·exact .inl e
    ·exact .inr h2.2.2⟩ y.toNat (by rw[e1,e2];exact h3) (by rw[e2];exact h4)
   rwa [e2] at this) hf
  exact this.2.2
open Classical in
noncomputable def kz (E:Int→List Int) (n:Nat) (a shut:Int):List Bool:=(aU n).map fun b=>decide (gG E a shut b)
open Classical in
theorem FrS.eq {E:Int→List Int} {a shut:Int} {n:Nat} {out:List Bool} (hE:eV E n) (ha:0≤a∧a<n) (h:FrS E a shut n out) (hc:zI E a shut out n):out=kz E n a shut:=by
 refine List.ext_getElem (by rw[h.len];unfold kz;rw[qr,bA]) fun k h1 h2=>?_
 have hk:k<n:=by rw[h.len] at h1;exact h1
 have:=h.all hE ⟨rfl,ha⟩ hc k hk
 have e1:out[k]=gb out k:=by have:=jA h1;rw[qk h1] at this;simpa using this
 have e2:(kz E n a shut)[k]=decide (gG E a shut k):=by
  have h3:(kz E n a shut)[k]?=some (decide (gG E a shut k)):=by unfold kz;rw[qs,e9 hk];rfl
  rw[qk h2] at h3
  simpa using h3
 rw[e1,e2]
 by_cases hf:gG E a shut k
 ·rw[qx hf];exact this.2 hf
 ·rw[qy hf];exact Bool.eq_false_iff.2 fun e=>hf (this.1 e)
open Classical in
noncomputable def ej (E:Int→List Int) (n:Nat) (shut:Int):List Bool:=(aU n).map fun b=>decide (ir E (fun x=>x≠shut) 0 b)
open Classical in
theorem zJ {E:Int→List Int} {n k:Nat} {a shut:Int} (hk:k<n):(kz E n a shut)[k]?=some (decide (gG E a shut k)):=by unfold kz;rw[qs,e9 hk];rfl
open Classical in
theorem jB {E:Int→List Int} {n k:Nat} {shut:Int} (hk:k<n):(ej E n shut)[k]?=some (decide (ir E (fun x=>x≠shut) 0 k)):=by unfold ej;rw[qs,e9 hk];rfl
theorem kZ (E:Int→List Int) (n:Nat) (a shut:Int):(kz E n a shut).length=n:=by unfold kz;rw[qr,bA]
theorem lK (E:Int→List Int) (n:Nat) (shut:Int):(ej E n shut).length=n:=by unfold ej;rw[qr,bA]
open Classical in
theorem zK {E:Int→List Int} {n:Nat} (shut:Int):(kz E n 0 shut).set 0 (decide (shut≠0))=ej E n shut:=by
 refine List.ext_getElem? fun k=>?_
 by_cases hk:k<n
 ·rw[jB hk]
  have hiff:=Bb (E:=E) (shut:=shut) (b:=(k:Int))
  by_cases e:k=0
  ·subst e
   rw[List.getElem?_set_self (by rw[kZ];exact hk)]
   refine congrArg some (Bool.eq_iff_iff.2 ?_)
   rw[decide_eq_true_iff,decide_eq_true_iff,←hiff]
   constructor
   ·intro h;exact .inl ⟨rfl,h⟩
   ·rintro (⟨_,h⟩|⟨h,_⟩)
    ·exact h
    ·exact absurd rfl h
  ·rw[List.getElem?_set_ne (fun e2=>e e2.symm),zJ hk]
   refine congrArg some (Bool.eq_iff_iff.2 ?_)
   rw[decide_eq_true_iff,decide_eq_true_iff,←hiff]
   constructor
   ·intro h;exact .inr ⟨by omega,h⟩
   ·rintro (⟨h,_⟩|⟨_,h⟩)
    ·omega
    ·exact h
 ·rw[List.getElem?_eq_none (by rw[List.length_set,kZ];omega),List.getElem?_eq_none (by rw[lK];omega)]
end Go.Proofs.YtdilpodccjlkgaaGreatDoor
namespace Go.Proofs.YtdilpodccjlkgaaGreatDoor
open Go.Proofs.Tryz
def jX (v:Nat) (ev:List (Int × gH)):Nat:=(ev.filter fun e=>decide (e.1=(v:Int))).length
theorem k4 (v:Nat) (ev:List (Int × gH)) (d:Int) (x:gH):jX v (ev++[(d,x)])=jX v ev+if d=(v:Int) then 1 else 0:=by
 unfold jX;rw[List.filter_append,qq]
 by_cases h:d=(v:Int)<;>simp[h]
theorem uv (f:ad) (v:Nat):(bu f v).length=jX v (dz f f.blocks.length):=by rw[←mi,qr];rfl
theorem xl (v:Nat) (ev:List (Int × gH)):jX v ev≤ev.length:=List.length_filter_le _ _
theorem pg {f:ad}:∀{n k:Nat},k≤n→n≤f.blocks.length→dz f k <+: dz f n
 |0,k,h,_=>by rw[show k=0 by omega];exact List.prefix_refl _
 |n+1,k,h,hn=>by
  by_cases e:k=n+1
  ·rw[e];exact List.prefix_refl _
  ·rw[fR (by omega)]
   exact (pg (by omega) (by omega)).trans (List.prefix_append _ _)
theorem BC (i:Nat) (ps:List e7) (j:Nat):dC i (ps.take j) <+: dC i ps:=by
 unfold dC
 obtain ⟨r,hr⟩:=List.take_prefix j ps
 exact ⟨r.map fun p=>(p.dst,((i:Int),-1)),by rw[←qv,hr]⟩
theorem uw (i:Nat) (xs:List aF):∀(m j:Nat),j≤m→m≤xs.length→f6 i (xs.take j) <+: f6 i (xs.take m)
 |0,j,h,_=>by rw[show j=0 by omega];exact List.prefix_refl _
 |m+1,j,h,hm=>by
  by_cases e:j=m+1
  ·rw[e];exact List.prefix_refl _
  ·rw[iF i (by omega)]
   exact (uw i xs m j (by omega) (by omega)).trans (List.prefix_append _ _)
theorem Dt {f:ad} {k j:Nat} {b:aY} (hk:k<f.blocks.length) (hb:f.blocks[k]=b) (hj:j<b.phis.length):(dz f k++dC k (b.phis.take j))++[(b.phis[j].dst,((k:Int),(-1:Int)))] <+: dz f f.blocks.length:=by
 refine List.IsPrefix.trans ?_ (pg (show k+1≤f.blocks.length by omega) (Nat.le_refl _))
 rw[fR hk,hb,qm,←kY k hj,oZ]
 exact (List.prefix_append_right_inj _).2 ((BC k b.phis (j+1)).trans (List.prefix_append _ _))
theorem BD {f:ad} {k j:Nat} {b:aY} (hk:k<f.blocks.length) (hb:f.blocks[k]=b) (hj:j<b.insts.length) (h0:0≤b.insts[j].dst):(dz f k++dC k b.phis++f6 k (b.insts.take j))++[(b.insts[j].dst,((k:Int),(j:Int)))] <+: dz f f.blocks.length:=by
 refine List.IsPrefix.trans ?_ (pg (show k+1≤f.blocks.length by omega) (Nat.le_refl _))
 have h:=iF k hj
 rw[if_pos h0] at h
 rw[fR hk,hb,qm,←h,oZ,qm]
 have h2:=uw k b.insts b.insts.length (j+1) (by omega) (Nat.le_refl _)
 rw[qp] at h2
 exact (List.prefix_append_right_inj _).2 ((List.prefix_append_right_inj _).2 h2)
theorem rD {f:ad} {v:Nat} {pre:List (Int × gH)} {x:gH} (hp:pre++[((v:Int),x)] <+: dz f f.blocks.length) (h0:jX v pre=0):aL f v=x:=by
 obtain ⟨r,hr⟩:=hp
 have h1:pre.filter (fun e=>decide (e.1=(v:Int)))=[]:=List.eq_nil_of_length_eq_zero h0
 unfold aL
 rw[←mi,←hr,List.filter_append,List.filter_append,h1]
 simp
theorem vY {f:ad} {v:Nat} (h0:jX v (dz f f.blocks.length)=0):aL f v=(-1,0):=by
 unfold aL
 rw[←mi,List.eq_nil_of_length_eq_zero h0]
 rfl
noncomputable section
def el (f:ad) (m:gH) (b at_:Int):Bool:=by
 classical exact if m.1<0 then true else if m.1=b then decide (m.2<at_) else !decide (ir (ah f) (fun x=>x≠m.1) 0 b)
def Fw (f:ad) (p:e7):Bool:=(p.args.zip p.from_).all fun q=>el f (aL f q.1) q.2 (iC f q.2)
def Fx (f:ad) (i:Nat) (x:aF × Nat):Bool:=x.1.args.all fun v=>el f (aL f v) i x.2
def Fy (f:ad) (i:Nat) (b:aY):Bool:=decide (b.term.kind=0)||el f (aL f b.term.var) i b.insts.length
def nH (f:ad) (i:Nat) (b:aY):Bool:=by
 classical exact decide (re (ah f) (i:Int))&&(b.phis.all (Fw f)&&(b.insts.zipIdx.all (Fx f i)&&Fy f i b))
def Fz (f:ad) (i:Nat):Bool:=((f.blocks[i]?).map (nH f i)).getD true
def iH (f:ad):Bool:=di f&&(ll f&&(List.range f.blocks.length).all (Fz f))
end
theorem mT {f:ad} {i:Nat} {b:aY} (h:f.blocks[i]?=some b):Fz f i=nH f i b:=by unfold Fz;rw[h];rfl
theorem mU {f:ad} (hE:bV f) (m:gH) {b:Int} (at_:Int) (hb:re (ah f) b):el f m b at_=eQ f m b at_:=by
 rw[qt,gM hE]
 unfold el kn
 by_cases h0:m.1<0
 ·rw[if_pos h0];simp[h0]
 ·rw[if_neg h0]
  by_cases h1:m.1=b
  ·rw[if_pos h1];simp[h1];omega
  ·rw[if_neg h1]
   simp only[Bool.not_eq_true',decide_eq_false_iff_not]
   constructor
   ·intro h;exact .inr (.inr ⟨by omega,h1,hb,h⟩)
   ·rintro (h|h|h)
    ·exact absurd h h0
    ·exact absurd h.1 h1
    ·exact h.2.2.2
theorem BE {f:ad} (hE:bV f) (hfr:∀b∈f.blocks,∀p∈b.phis,∀c∈p.from_,0≤c∧c<f.blocks.length):iH f=dv f:=by
 unfold iH dv
 by_cases hA:Bd f
 ·have hall:(fQ (ah f) f.blocks.length).contains false=false:=(lG hE).2 hA
  rw[hall]
  have hrch:∀c:Int,0≤c→c<f.blocks.length→re (ah f) c:=fun c h0 h1=>by
   have:=hA c.toNat (by omega)
   rwa [show ((c.toNat:Nat):Int)=c by omega] at this
  have:(List.range f.blocks.length).all (Fz f)=vO f:=by
   unfold vO
   rw[qt,w3,w3]
   refine forall_congr' fun i=>?_
   constructor
   all_goals
    intro h hi
    have hi2:=List.mem_range.1 hi
    have h:=h hi
    have hget:f.blocks[i]?=some f.blocks[i]:=qk hi2
    have hmem:=qo hi2
    have e1:f.blocks[i].phis.all (Fw f)=f.blocks[i].phis.all (EW f):=by
     rw[qt,w3,w3]
     refine forall_congr' fun p=>forall_congr' fun hp=>?_
     unfold Fw EW
     rw[w3,w3]
     refine forall_congr' fun q=>forall_congr' fun hq=>?_
     have hc:=hfr _ hmem p hp q.2 (List.of_mem_zip hq).2
     rw[mU hE _ _ (hrch q.2 hc.1 hc.2)]
    have e2:f.blocks[i].insts.zipIdx.all (Fx f i)=f.blocks[i].insts.zipIdx.all (Bw f i):=by
     rw[qt,w3,w3]
     refine forall_congr' fun x=>forall_congr' fun _=>?_
     unfold Fx Bw
     rw[w3,w3]
     refine forall_congr' fun v=>forall_congr' fun _=>?_
     rw[mU hE _ _ (hA i hi2)]
    have e3:Fy f i f.blocks[i]=Fv f i f.blocks[i]:=by unfold Fy Fv;rw[mU hE _ _ (hA i hi2)]
    have e:nH f i f.blocks[i]=qD f i f.blocks[i]:=by
     unfold nH qD;rw[e1,e2,e3];simp[hA i hi2,Bool.and_assoc]
    first
     |(rw[mT hget,e] at h;rw[o8 hget];exact h)
     |(rw[o8 hget,←e] at h;rw[mT hget];exact h)
  rw[this]
  simp
 ·have h1:(fQ (ah f) f.blocks.length).contains false=true:=by
   cases h:(fQ (ah f) f.blocks.length).contains false with
   |true=>rfl
   |false=>exact absurd ((lG hE).1 h) hA
  have h2:(List.range f.blocks.length).all (Fz f)=false:=by
   rw[Bool.eq_false_iff]
   intro h
   apply hA
   intro i hi
   have:=List.all_eq_true.1 h i (List.mem_range.2 hi)
   rw[mT (qk hi)] at this
   unfold nH at this
   simp only[qz,w6] at this
   exact this.1
  rw[h1,h2]
  simp
end Go.Proofs.YtdilpodccjlkgaaGreatDoor
namespace Go.Proofs.YtdilpodccjlkgaaGreatDoor
open Go.Proofs.Tryz
theorem ph (E:Int→List Int) {n b:Nat} (hb:b<n) (s:Int):(ej E n s)[b]?=some (gb (ej E n s) b):=jA (by rw[lK];exact hb)
theorem pi {E:Int→List Int} {n b:Nat} (hb:b<n) (s:Int):gb (ej E n s) b=true↔ir E (fun x=>x≠s) 0 b:=by
 rw[vW,jB hb];simp
theorem ux {E:Int→List Int} {n:Nat} (hE:eV E n) {b:Int}:ir E (fun x=>x≠-1) 0 b↔re E b:=by
 constructor
 ·exact fun h=>h.mono fun _ _=>trivial
 ·intro h
  have h2:∀c,re E c→(0:Int)≤c:=fun c hc=>(b3 hE.toEOk ((bP hE.toEOk c).2 hc)).1
  have:=ir.self h
  exact this.mono fun x hx=>by have:=h2 x hx.2;omega
theorem BF {E:Int→List Int} {n a b:Nat} (hE:eV E n) (ha:a<n) (hb:b<n) (hra:gb (ej E n (-1)) a=true) :
  (gb (ej E n (-1)) b&&(decide ((a:Int)=(b:Int))||!gb (ej E n a) b))=er E n a b:=by
 rw[qt,hE.domB_iff]
 simp only[qz,Bool.or_eq_true,Bool.not_eq_true',w6]
 rw[pi hb,ux hE,←Bool.not_eq_true,pi hb]
 unfold gF
 constructor
 ·rintro ⟨h1,h2⟩
  refine ⟨h1,?_⟩
  rcases h2 with h2|h2
  ·rw[h2];exact fun hw=>hw.end_ rfl
  ·exact h2
 ·rintro ⟨h1,h2⟩
  exact ⟨h1,.inr h2⟩
theorem BG {E:Int→List Int} {n a b:Nat} (hE:eV E n) (ha:a<n) (hra:gb (ej E n (-1)) a=false):er E n a b=false:=by
 rw[←Bool.not_eq_true,hE.domB_iff]
 intro h
 have:=h.rch
 rw[←ux hE,←pi ha,hra] at this
 cases this
def jT (f:ad) (a k:Nat):List Bool:=(List.range f.blocks.length).map fun b=>decide (b<k)&&er (ah f) f.blocks.length a b
def mV (f:ad) (a:Nat):List Bool:=(List.range f.blocks.length).map fun (b:Nat)=>er (ah f) f.blocks.length a b
def ml (f:ad):List (List Bool):=(List.range f.blocks.length).map (mV f)
theorem gv (f:ad) (a k:Nat):(jT f a k).length=f.blocks.length:=by simp[jT]
theorem pj (f:ad) (a:Nat):List.replicate f.blocks.length false=jT f a 0:=by
 unfold jT
 apply List.ext_getElem
 ·simp
 ·intro i h1 h2;simp
theorem lL {f:ad} {a k:Nat}:(jT f a k).set k (er (ah f) f.blocks.length a k)=jT f a (k+1):=by
 apply List.ext_getElem?
 intro i
 rw[List.getElem?_set]
 unfold jT
 by_cases hi:i<f.blocks.length
 ·by_cases e:k=i
  ·subst e
   rw[if_pos rfl,if_pos (by simpa using hi),qs,List.getElem?_range hi];simp
  ·rw[if_neg e,qs,qs,List.getElem?_range hi]
   simp only[Option.map_some]
   congr 2
   exact decide_eq_decide.2 (by omega)
 ·by_cases e:k=i
  ·subst e
   rw[if_pos rfl,if_neg (by simpa using hi),qs,List.getElem?_eq_none (by simpa using hi)];rfl
  ·rw[if_neg e,qs,qs,List.getElem?_eq_none (by simpa using hi)];rfl
theorem zL (f:ad) (a:Nat):jT f a f.blocks.length=mV f a:=by
 unfold jT mV
 apply List.map_congr_left
 intro b hb
 rw[qx (List.mem_range.1 hb),Bool.true_and]
theorem BH {f:ad} {a:Nat} (hE:eV (ah f) f.blocks.length) (ha:a<f.blocks.length) (hra:gb (ej (ah f) f.blocks.length (-1)) a=false):jT f a 0=mV f a:=by
 unfold jT mV
 apply List.map_congr_left
 intro b hb
 rw[BG hE ha hra];rfl
theorem BI (f:ad) (a:Nat):(mV f a).length=f.blocks.length:=by simp[mV]
theorem gO (f:ad):(ml f).length=f.blocks.length:=by simp[ml]
theorem mn {f:ad} {a:Nat} (h:a<f.blocks.length):(ml f)[a]?=some (mV f a):=by unfold ml;rw[qs,List.getElem?_range h];rfl
theorem BJ {f:ad} {a b:Nat} (h:b<f.blocks.length):(mV f a)[b]?=some (er (ah f) f.blocks.length a b):=by unfold mV;rw[qs,List.getElem?_range h];rfl
theorem zM {f:ad} {k:Nat} (h:k<f.blocks.length):(ml f).take (k+1)=(ml f).take k++[mV f k]:=by
 rw[ql (by rw[gO];exact h)]
 have:=mn h
 rw[qk (by rw[gO];exact h)] at this
 rw[Option.some.inj this]
theorem mW {v i:Int} {b:aY} {m:gH}:m∈rp v i b↔(∃p∈b.phis,p.dst=v∧m=(i,-1))∨∃(k:Nat) (x:aF),b.insts[k]?=some x∧x.dst=v∧m=(i,(k:Int)):=by
 unfold rp
 rw[List.mem_append]
 constructor
 ·rintro (h|h)
  ·obtain ⟨p,hp,e⟩:=List.mem_map.1 h
   obtain ⟨h1,h2⟩:=List.mem_filter.1 hp
   exact .inl ⟨p,h1,by simpa using h2,e.symm⟩
  ·obtain ⟨q,hq,e⟩:=List.mem_map.1 h
   obtain ⟨h1,h2⟩:=List.mem_filter.1 hq
   obtain ⟨x,k⟩:=q
   have:=List.mem_zipIdx_iff_getElem?.1 h1
   exact .inr ⟨k,x,this,by simpa using h2,e.symm⟩
 ·rintro (⟨p,h1,h2,rfl⟩|⟨k,x,h1,h2,rfl⟩)
  ·exact .inl (List.mem_map.2 ⟨p,List.mem_filter.2 ⟨h1,by simpa using h2⟩,rfl⟩)
  ·exact .inr (List.mem_map.2 ⟨(x,k),List.mem_filter.2 ⟨List.mem_zipIdx_iff_getElem?.2 h1,by simpa using h2⟩,rfl⟩)
theorem kA {f:ad} {v:Int} {m:gH}:m∈bu f v↔∃(i:Nat) (b:aY),f.blocks[i]?=some b∧m∈rp v i b:=by
 unfold bu
 rw[List.mem_flatMap]
 constructor
 ·rintro ⟨⟨b,i⟩,h1,h2⟩;exact ⟨i,b,List.mem_zipIdx_iff_getElem?.1 h1,h2⟩
 ·rintro ⟨i,b,h1,h2⟩;exact ⟨(b,i),List.mem_zipIdx_iff_getElem?.2 h1,h2⟩
theorem zN {f:ad} {v:Int} (h:0≤(aL f v).1):aL f v∈bu f v:=by
 unfold aL at h ⊢
 cases hm:bu f v with
 |nil=>rw[hm] at h;simp at h
 |cons x l=>simp
theorem uy {f:ad} {v:Int} {m:gH} (hl:(bu f v).length≤1) (h:m∈bu f v):aL f v=m:=by
 unfold aL
 cases hm:bu f v with
 |nil=>rw[hm] at h;cases h
 |cons x l=>
  rw[hm] at h hl
  cases l with
  |nil=>simp at h;simp[h]
  |cons y l=>simp at hl
theorem uz {f:ad} {v:Int} (h:0≤(aL f v).1):∃(i:Nat) (b:aY),f.blocks[i]?=some b∧((∃p∈b.phis,p.dst=v∧aL f v=((i:Int),-1))∨∃(k:Nat) (x:aF),b.insts[k]?=some x∧x.dst=v∧aL f v=((i:Int),(k:Int))):=by
 obtain ⟨i,b,h1,h2⟩:=kA.1 (zN h)
 exact ⟨i,b,h1,mW.1 h2⟩
end Go.Proofs.YtdilpodccjlkgaaGreatDoor
namespace Go.Proofs.YtdilpodccjlkgaaGreatDoor
open Go.Proofs.Tryz
end Go.Proofs.YtdilpodccjlkgaaGreatDoor
namespace Go.Proofs.YtdilpodccjlkgaaGreatDoor
open Go.Proofs.Tryz
def El (q:Int):Prop:=21≤q∧q≤23
instance (q:Int):Decidable (El q):=by unfold El;infer_instance
end Go.Proofs.YtdilpodccjlkgaaGreatDoor
namespace Go.Proofs.YtdilpodccjlkgaaGreatDoor
open Go.Proofs.Tryz
end Go.Proofs.YtdilpodccjlkgaaGreatDoor
namespace Go.Proofs.YtdilpodccjlkgaaGreatDoor
open Go.Proofs.Tryz
section
variable {n:Nat} {rule:List fj→Int→fj} {vs:List Int} {phi:Int→Prop} {rank:Int→Nat}
end
section
variable {n:Nat} {rule:List fj→Int→fj} {vs:List Int} {phi:Int→Prop} {t:Int→fj}
end
end Go.Proofs.YtdilpodccjlkgaaGreatDoor
namespace Go.Proofs.YtdilpodccjlkgaaGreatDoor
open Go.Proofs.Tryz
structure GS where
 ints:List Int
 bools:List Bool
 arrs:List Int
 arrays:List (List Int)
 blk:Int
 pc:Nat
 en:Int
 val:Int
 tr:Int
 trace:List Int
 st:Nat
 ck:Nat→Nat
 ended:Bool
def vi (l:List Int) (v:Int):Int:=(l[v.toNat]?).getD 0
def bc (x:aF):Int:=(x.args[0]?).getD 0
def bC (x:aF):Int:=(x.args[1]?).getD 0
def EZ (s:GS) (a:Int):List Int:=(s.arrays[a.toNat]?).getD []
def E0 (s:GS) (a i:Int):Bool:=decide (0≤a∧a<s.arrays.length∧0≤i∧i<(EZ s a).length)
def GK (l:List Int) (ints:List Int):Int:=if 1<l.length then vi ints ((l[1]?).getD 0) else 0
def F9 (s:GS) (op:Int) (l:List Int):Bool:=
 if op=18 then E0 s (vi s.arrs ((l[0]?).getD 0)) (GK l s.ints)
 else if op=19 then decide (0≤vi s.arrs ((l[0]?).getD 0))
 else if op=20 then decide (vi s.ints ((l[0]?).getD 0)≠0)
 else if op=21 then decide (dJ 0 (vi s.ints ((l[0]?).getD 0)) (GK l s.ints))
 else if op=22 then decide (dJ 1 (vi s.ints ((l[0]?).getD 0)) (GK l s.ints))
 else if op=23 then decide (dJ 2 (vi s.ints ((l[0]?).getD 0)) (GK l s.ints))
 else decide (0≤vi s.ints ((l[0]?).getD 0)∧vi s.ints ((l[0]?).getD 0)≤64)
def Ho (s:GS) (d v:Int):GS:={ s with ints:=s.ints.set d.toNat v }
def Hp (s:GS) (d:Int) (v:Bool):GS:={ s with bools:=s.bools.set d.toNat v }
def Hq (s:GS) (d v:Int):GS:={ s with arrs:=s.arrs.set d.toNat v }
def G6 (a b:Int):Int:=IntKind.i64.wrap (a.tdiv b)
def G7 (a b:Int):Int:=if b=-1 then 0 else IntKind.i64.wrap (a - IntKind.i64.wrap (IntKind.i64.wrap (a.tdiv b)*b))
def aG (s:GS) (x:aF):Int:=vi s.ints (bc x)
def bG (s:GS) (x:aF):Int:=vi s.ints (bC x)
def pG (s:GS) (x:aF):Bool:=gb s.bools (bc x)
def qG (s:GS) (x:aF):Bool:=gb s.bools (bC x)
def rG (s:GS) (x:aF):Int:=vi s.arrs (bc x)
def gW (f:ad) (b:Int):aY:=(f.blocks[b.toNat]?).getD ⟨⟨#[]⟩,[],[],⟨2,0,0,0⟩⟩
def BK (p:e7) (b:Int):Int:=((p.from_.zip p.args).find? fun q=>decide (q.1=b)).elim (-1) (·.2)
def assign (s t:GS) (p:e7):GS:=Hq (Hp (Ho t p.dst (vi s.ints (BK p s.blk))) p.dst (gb s.bools (BK p s.blk))) p.dst (vi s.arrs (BK p s.blk))
theorem vZ {α:Type} {l:List α} {n:Nat} {a x:α} (h:x∈l.set n a):x∈l∨x=a:=List.mem_or_eq_of_mem_set h
theorem pk {f:ad} {v:Int} (h:aZ f v=true):v<f.vars.length∧0≤v:=by
 unfold aZ at h;simp at h;exact ⟨h.2,h.1⟩
theorem dg.a0 {f:ad} {x:aF} (h:dg f x) (hl:0<x.args.length):bc x<f.vars.length∧0≤bc x:=by
 unfold bc;rw[qk hl];exact pk (h.args _ (qo hl))
theorem dg.a1 {f:ad} {x:aF} (h:dg f x) (hl:1<x.args.length):bC x<f.vars.length∧0≤bC x:=by
 unfold bC;rw[qk hl];exact pk (h.args _ (qo hl))
theorem E1:∀j:Nat,j<27→(bH (j:Int)).length=([0,1,2,2,2,2,2,2,2,2,1,2,1,2,3,1,0,1,2,1,1,2,2,2,1,2,2][j]?).getD 0:=by decide
theorem dg.argc {f:ad} {x:aF} (h:dg f x):x.args.length=([0,1,2,2,2,2,2,2,2,2,1,2,1,2,3,1,0,1,2,1,1,2,2,2,1,2,2][x.op.toNat]?).getD 0:=by
 have h1:=h.op
 obtain ⟨j,e⟩:∃j:Nat,x.op=(j:Int):=⟨x.op.toNat,by omega⟩
 rw[h.len,e,E1 j (by omega),Int.toNat_natCast]
theorem E2:∀j:Nat,j<27→dV (j:Int)=([true,true,true,true,true,true,true,true,true,true,true,true,true,true,false,true,true,false,false,false,false,false,false,false,false,true,true][j]?).getD false:=by decide
theorem dg.made {f:ad} {x:aF} (h:dg f x) (hm:([true,true,true,true,true,true,true,true,true,true,true,true,true,true,false,true,true,false,false,false,false,false,false,false,false,true,true][x.op.toNat]?).getD false=true):x.dst<f.vars.length∧0≤x.dst:=by
 have h1:=h.op
 obtain ⟨j,e⟩:∃j:Nat,x.op=(j:Int):=⟨x.op.toNat,by omega⟩
 rw[e,Int.toNat_natCast,←E2 j (by omega),←e] at hm
 rcases h.dst with g|g
 ·rw[g.1] at hm;cases hm
 ·exact pk g.2.2
structure Ga (f:ad):Prop where
 pos:0<f.blocks.length
 phis:∀b∈f.blocks,∀p∈b.phis,vE f p
 insts:∀b∈f.blocks,∀x∈b.insts,dg f x∧cY x.num
 term:∀b∈f.blocks,bM f b.term=true
theorem Du {f:ad} {b:Int} (h0:0≤b) (h1:b<f.blocks.length):f.blocks[b.toNat]?=some (gW f b):=by
 unfold gW;rw[qk (by omega)];rfl
theorem xm {f:ad} {b:Int} (h0:0≤b) (h1:b<f.blocks.length):gW f b∈f.blocks:=qu (Du h0 h1)
end Go.Proofs.YtdilpodccjlkgaaGreatDoor
namespace Go.Proofs.YtdilpodccjlkgaaGreatDoor
open Go.Proofs.Tryz
end Go.Proofs.YtdilpodccjlkgaaGreatDoor
namespace Go.Proofs.YtdilpodccjlkgaaGreatDoor
open Go.Proofs.Tryz
def V (s:GS) (v:Int):Int × Bool × Int:=(vi s.ints v,gb s.bools v,vi s.arrs v)
inductive Act where
 |stop (e:Int)
 |i (v:Int)
 |b (v:Bool)
 |a (v:Int)
 |all (v:Int × Bool × Int)
 |row (l:List (List Int))
 |new (l:List (List Int)) (v:Int)
 |out (l:List Int)
end Go.Proofs.YtdilpodccjlkgaaGreatDoor
namespace Go.Proofs.YtdilpodccjlkgaaGreatDoor
open Go.Proofs.Tryz
def Gb (op:Int):Bool:=decide (op=0∨(2≤op∧op≤12)∨op=16)
def Gc (op:Int):Bool:=decide (op=2∨op=4∨op=7∨op=11)
def uA (r:Int→Int) (x:aF):aF:=⟨x.op,x.dst,x.args.map r,x.num⟩
def BL (x y:aF):Bool:=Gb x.op&&(decide (x.op=y.op∧x.num=y.num)&&(decide (x.args=y.args)||(Gc x.op&&(decide (x.args.length=2)&&decide (x.args=y.args.reverse)))))
def E3 (f:ad) (i k:Nat) (x:aF):Prop:=∃b,f.blocks[i]?=some b∧b.insts[k]?=some x
def jC (f:ad) (i k:Nat) (x:aF):Prop:=E3 f i k x∧Gb x.op=true
def gP (f:ad) (i' k' i k:Nat):Prop:=kn f ((i':Int),(k':Int)) i k
structure Gd (f:ad) (r:Int→Int):Prop where
 id:∀v,(∀i k x,jC f i k x→x.dst≠v)→r v=v
 rt:∀i k y,jC f i k y→r y.dst=y.dst∨∃i' k' x,jC f i' k' x∧gP f i' k' i k∧r x.dst=x.dst∧r y.dst=x.dst∧BL (uA r x) (uA r y)=true
 no:∀i k y i' k' x,jC f i k y→jC f i' k' x→gP f i' k' i k→r x.dst=x.dst→r y.dst=y.dst→BL (uA r x) (uA r y)=false
structure G8 (f:ad) (rk:Nat→Nat→Nat):Prop where
 less:∀i k y i' k' x,jC f i k y→jC f i' k' x→gP f i' k' i k→rk i' k'<rk i k
 arg:∀i k y a i' k' x,jC f i k y→a∈y.args→jC f i' k' x→x.dst=a→gP f i' k' i k
 total:∀i k y i1 k1 x1 i2 k2 x2,jC f i k y→jC f i1 k1 x1→jC f i2 k2 x2→gP f i1 k1 i k→gP f i2 k2 i k→gP f i1 k1 i2 k2∨gP f i2 k2 i1 k1∨(i1=i2∧k1=k2)
 trans:∀i k y i1 k1 x1 i2 k2 x2,jC f i k y→jC f i1 k1 x1→jC f i2 k2 x2→gP f i1 k1 i2 k2→gP f i2 k2 i k→gP f i1 k1 i k
 made:∀i k y i1 k1 x1,jC f i k y→jC f i1 k1 x1→x1.dst=y.dst→i1=i∧k1=k
theorem zO {N:Int→Int} {b a:Int} (h:f9 N b a):∀c,f9 N b c→f9 N a c∨f9 N c a:=by
 induction h with
 |refl=>exact fun c hc=>.inl hc
 |up h1 h2 h3 ih=>
  intro c hc
  rcases hc.cases' with e|⟨_,_,g⟩
  ·rw[e];exact .inr (.up h1 h2 h3)
  ·exact ih c g
theorem zP {E:Int→List Int} {n:Nat} (hG:eV E n) {a b c:Int} (h:gF E a b) (k:gF E c b):gF E c a∨gF E a c:=by
 have hb:b∈aA E n:=(bP hG.toEOk b).2 h.1
 have ha:a∈aA E n:=(bP hG.toEOk a).2 h.rch
 have hc:c∈aA E n:=(bP hG.toEOk c).2 k.rch
 rcases zO ((hG.dom_iff hb).1 h) c ((hG.dom_iff hb).1 k) with g|g
 ·exact .inl ((hG.dom_iff ha).2 g)
 ·exact .inr ((hG.dom_iff hc).2 g)
end Go.Proofs.YtdilpodccjlkgaaGreatDoor
