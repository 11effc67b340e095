/- The document's ways: which block leads to which, what is reached, joined. Of programs that are little. -/
import Derived.Test.YtbanfokidalbaaaGreatDoorJk
import Derived.Test.YtbanfokidalbaaaGreatDoorJd
set_option linter.unusedVariables false
set_option linter.unusedSimpArgs false
set_option linter.unusedSectionVars false
namespace Go.Proofs.YtbanfokidalbaaaGreatDoor
section
open Go.Proofs.Tryz
open Go.Proofs Go.Lib Go.Shelf Go.RowKit
theorem BP:el prog 107 #[(0,1),(1,1)] [.int .i64 0,.int .i64 0]:=⟨_,_,Yr,zeroValue107,fun w=>by kernel_rfl,rfl⟩
theorem lR:dM prog 108 107 1 2 [.int .i64 0,.int .i64 0]:=⟨_,Zo,Yb,zeroValue107,by decide,by decide,by kernel_rfl⟩
variable {E:World}
set_option maxRecDepth 20000
theorem bx.dstPhi {f:ad} (h:bx f) {b:bc} (hb:b∈f.blocks) {p:cS} (hp:p∈b.phis):0≤p.dst∧p.dst<f.vars.length:=by
 have:=((h.2.2.2.2.2 b hb).1 p hp).1
 simpa [bz] using this
theorem bx.dstInst {f:ad} (h:bx f) {b:bc} (hb:b∈f.blocks) {x:aN} (hx:x∈b.insts) (h0:0≤x.dst):x.dst<f.vars.length:=by
 rcases (fk ((h.2.2.2.2.2 b hb).2.1 x hx)).dst with ⟨_,d⟩|⟨_,_,d⟩
 ·omega
 ·have:0≤x.dst∧x.dst<f.vars.length:=by simpa [bz] using d
  exact this.2
theorem small.evs {f:ad} (hf:small f) {k:Nat} (hk:k≤f.blocks.length):(dy f k).length≤2000000:=by
 have h1:=vN (m:=2000) (fun b hb=>by have:=hf.2.2.2.2 b hb;have h2:=this.2.1;have h3:=this.2.2.1;omega) k hk
 have:=hf.2.2.1
 omega
set_option maxHeartbeats 4000000 in
theorem oI (f:ad) (hf:small f) (hS:bx f):ba prog E 78 [.agg (bL f)] []
  fun x O=>∃b:Nat,x=dn b f.vars.length∧O=[(0,cJ eP 108 107 b (qC f))]:=by
 have hv:=hf.1
 have hn:=hf.2.2.1
 refine zo func78 Z (by decide) Z<|ah<|yb (cs:=_) Z Z Z<|bV Z<|z6<|ah<|ae je Z Zg Z Z<|aI Zp Z<|ak js Z<|ye (m:=f.vars.length) Yd type108 Z Z Z Z Z (by simp) (by simp) (by show (24:Int)*_≤_;omega) (by omega) eP 107<|fun b13=>za (yi (v:=dn _ _) Z)<|z6<|zc<|ah<|ae je Z Ze Z Z<|aI Zl Z<|ak jk Z<|aa Z<|z6<|zh<|ya (γ:=Nat) [3,15,16] (fun k=>[(17,.int .i64 k)]) (fun k=>[(0,cJ eP 108 107 b13 (cE f.vars.length (dy f k)))]) (fun k=>k≤f.blocks.length) (fun k=>f.blocks.length - k) 0 aG ⟨_,(.refl _),by rw[p8];rfl⟩ (qt _) ?_
 rintro k hk
 refine ah<|aw Z Z<|z6<|zc<|zp Z (fun ck=>?_) (fun ck=>?_)
 ·have hk2:k<f.blocks.length:=by simp at ck;omega
  obtain ⟨b,hbk⟩:∃b,f.blocks[k]=b:=⟨_,rfl⟩
  have hget:f.blocks[k]?=some b:=by rw[qq hk2,hbk]
  have hmem:b∈f.blocks:=hbk▸qu hk2
  obtain ⟨hb0,hb1,hb2,hb3,hb4⟩:=hf.2.2.2.2 b hmem
  have hevl:=hf.evs hk
  refine zd<|zc<|zh<|ah<|aa Z<|za (bD k jk jv Z Z Z hget)<|ab Yk jv Z Z<|zy (cs:=[.str ⟨#[]⟩,.raw (.slice none 0 0),.raw (.slice none 0 0),.int .i64 0,.int .i64 0,.int .i64 0,.int .i64 0]) Zn Z Z<|fun i5=>ay Z<|zq jv Z Z Z Z Z Z .head Z<|zf (yd (t:=5) Z .head)<|z6<|zc<|ah<|ae jl Z Yh Z Z<|aI Yt Z<|ak Z2 Z<|aa Z<|z6<|zh<|ya (γ:=Nat) [3,4,5,15,16,17,23,24] (fun j=>[(25,.int .i64 j)]) (fun j=>[(0,cJ eP 108 107 b13 (cE f.vars.length (dy f k++dE k (b.phis.take j))))]) (fun j=>j≤b.phis.length) (fun j=>b.phis.length - j) 0 aG ⟨_,(.refl _),by rw[show dE k (b.phis.take 0)=[] from rfl,w5]⟩ (qt _) ?_
  rintro j hj
  refine ah<|aw Z Z<|z6<|zc<|zp Z (fun cj=>?_) (fun cj=>?_)
  ·have hj2:j<b.phis.length:=by simp at cj;omega
   obtain ⟨p,hp⟩:∃p,b.phis[j]=p:=⟨_,rfl⟩
   obtain ⟨hd0,hdn⟩:=hS.dstPhi hmem (hp▸qu hj2)
   obtain ⟨rows,hrows⟩:∃rows,cE f.vars.length (dy f k++dE k (b.phis.take j))=rows:=⟨_,rfl⟩
   have hdl:p.dst.toNat<(cE f.vars.length (dy f k++dE k (b.phis.take j))).length:=by rw[cR];omega
   have hrl:=kj hdl
   have hsucc:=k9 (x:=((k:Int),(-1:Int))) hd0 hdl
   have hrn:=cR f.vars.length (dy f k++dE k (b.phis.take j))
   have hel:(dy f k++dE k (b.phis.take j)).length≤2001000:=by rw[qw,dE,qx,w6];omega
   rw[qs,show dE k (b.phis.take j)++[(p.dst,((k:Int),(-1:Int)))]=dE k (b.phis.take (j+1)) by rw[lI k hj2,hp]] at hsucc
   simp only[hrows] at hdl hrl hsucc hrn
   rw[hrows]
   refine zd<|zc<|zh<|ah<|za (bD j Z2 jz Z Z Z (by rw[qq hj2,hp])) ?_
   refine ab Yl jz Z Z<|zy (cs:=[.int .i64 0,.raw (.slice none 0 0),.raw (.slice none 0 0)]) Zb Z Z<|fun i7=>zq jz Z Z Z Z Z Z .head Z<|zf (yd (t:=7) Z .head)<|z6<|yf (γ:=Unit) [3,4,5,15,16,17,23,24,25] (fun u=>[]) (fun u=>[(0,cJ eP 108 107 b13 (rows.set p.dst.toNat (rows[p.dst.toNat]++[((k:Int),-1)])))]) (fun u=>True) ?_ (fun _ _ h=>h) ?_
   ·refine y7 (fun j=>Nat.beq j 13) (by kernel_rfl) Z (zn (.rest _))<|au 0 Z (yl (v:=dn _ _) Z)<|au 1 Z (cA jt Z ja Z Z)<|au 2 Z (du jc Z)<|au 3 Z (yl (v:=dn _ _) Z)<|au 4 Z (cA jt Z ja Z Z)<|au 5 Z (du jc Z)<|au 6 Z (qe (j:=p.dst.toNat) Yd Yz Z Z (by omega) (by omega))<|au 8 Z (cG Z)<|au 9 Z (zz (cps:=[(0,[_]),(1,[_])]) (rs:=[_,_]) BP Z Z Z)<|yv (i:=7) (j:=10) Z Z (by kernel_rfl) ?_ ?_
    ·refine q5 (j:=p.dst.toNat) (r:=rows[p.dst.toNat]) Xd Z (qq hdl) (fun _=>.head)<|fun i36=>z6<|aV 10 Z<|y8 (rows:=[[_,_]]) lR Z Z Z Z Z<|z6<|aV 11 Z<|yn (k:=2) Zo type107 Z Z Z Z Z (fun _=>.head) (by rw[eP.av_len];rfl) (by decide) Z (by show (_+1)*16≤_;omega) (by show _+1≤_;omega)<|fun i40=>z6<|au 12 Z (qe (j:=p.dst.toNat) Yd Yz Z Z (by omega) (by omega))<|yx<|q1 (i:=13) Z (by kernel_rfl) (by kernel_rfl)<|qf (j:=p.dst.toNat) (r:=rows[p.dst.toNat]++[((k:Int),-1)]) Yz Z Z (by omega) .head .head Z (eP.av_push rows[p.dst.toNat] ((k:Int),(-1:Int))) (by simp)<|z6<|yz (by kernel_rfl) ?_
     exact ⟨(),nK,trivial,aC,trivial⟩
    ·refine y8 (rows:=[[_,_]]) lR Z Z Z Z Z<|z6<|aV 7 Z<|q5 (j:=p.dst.toNat) (r:=rows[p.dst.toNat]) Xd Z (qq hdl) (fun _=>.head)<|fun i36=>z6<|aV 11 Z<|yn (k:=2) Zo type107 Z Z Z Z Z (fun _=>.head) (by rw[eP.av_len];rfl) (by decide) Z (by show (_+1)*16≤_;omega) (by show _+1≤_;omega)<|fun i40=>z6<|au 12 Z (qe (j:=p.dst.toNat) Yd Yz Z Z (by omega) (by omega))<|yx<|q1 (i:=13) Z (by kernel_rfl) (by kernel_rfl)<|qf (j:=p.dst.toNat) (r:=rows[p.dst.toNat]++[((k:Int),-1)]) Yz Z Z (by omega) .head .head Z (eP.av_push rows[p.dst.toNat] ((k:Int),(-1:Int))) (by simp)<|z6<|yz (by kernel_rfl) ?_
     exact ⟨(),nK,trivial,aC,trivial⟩
   ·rintro _ _
    refine aM<|aA Z Z<|aa Z<|z6 ?_
    exact ⟨j+1,vP,aG,⟨_,(.refl _),by rw[hsucc]⟩,hj2,by omega⟩
  ·have hjn:j=b.phis.length:=by simp at cj;omega
   subst hjn
   rw[qv]
   refine y9<|ah<|ae jl Z Y8 Z Z<|aI Yi Z<|ak jx Z<|aa Z<|z6<|zh<|ya (γ:=Nat) [3,4,15,16,17,44,45] (fun j=>[(46,.int .i64 j)]) (fun j=>[(0,cJ eP 108 107 b13 (cE f.vars.length (dy f k++dE k b.phis++gB k (b.insts.take j))))]) (fun j=>j≤b.insts.length) (fun j=>b.insts.length - j) 0 aG ⟨_,(.refl _),by rw[show gB k (b.insts.take 0)=[] from rfl,w5]⟩ (qt _) ?_
   rintro j hj
   refine ah<|aw Z Z<|z6<|zc<|zp Z (fun cj=>?_) (fun cj=>?_)
   ·have hj2:j<b.insts.length:=by simp at cj;omega
    obtain ⟨p,hp⟩:∃p,b.insts[j]=p:=⟨_,rfl⟩
    have hev:=jQ k hj2
    rw[hp] at hev
    refine zd<|zc<|zh<|ah<|aa Z<|za (bD j jx Z9 Z Z Z (by rw[qq hj2,hp])) ?_
    refine ab Ye Z9 Z Z<|zy (cs:=[.int .i64 0,.int .i64 0,.raw (.slice none 0 0),.int .i64 0]) Yf Z Z<|fun i9=>ay Z<|zq Z9 Z Z Z Z Z Z .head Z<|zf (yd (t:=9) Z .head)<|z6<|ah<|ae j8 Z ja Z Z<|ax jc Z<|za (qa Z Z)<|z6<|zt Z (fun cd=>?_) (fun cd=>?_)
    ·have hd0:0≤p.dst:=by simpa using cd
     have hdn:=hS.dstInst hmem (hp▸qu hj2) hd0
     rw[if_pos hd0] at hev
     obtain ⟨rows,hrows⟩:∃rows,cE f.vars.length (dy f k++dE k b.phis++gB k (b.insts.take j))=rows:=⟨_,rfl⟩
     have hdl:p.dst.toNat<(cE f.vars.length (dy f k++dE k b.phis++gB k (b.insts.take j))).length:=by rw[cR];omega
     have hrl:=kj hdl
     have hsucc:=k9 (x:=((k:Int),(j:Int))) hd0 hdl
     have hrn:=cR f.vars.length (dy f k++dE k b.phis++gB k (b.insts.take j))
     have hel:(dy f k++dE k b.phis++gB k (b.insts.take j)).length≤2002000:=by
      have:=qB k (b.insts.take j)
      rw[w6] at this
      rw[qw,qw,dE,qx];omega
     rw[qs (dy f k++dE k b.phis) (gB k (b.insts.take j)) [(p.dst,((k:Int),(j:Int)))],←hev] at hsucc
     simp only[hrows] at hdl hrl hsucc hrn
     rw[hrows]
     refine yf (γ:=Unit) [3,4,15,16,17,44,45,46] (fun u=>[]) (fun u=>[(0,cJ eP 108 107 b13 (rows.set p.dst.toNat (rows[p.dst.toNat]++[((k:Int),(j:Int))])))]) (fun u=>True) ?_ (fun _ _ h=>h) ?_
     ·refine y7 (fun j=>Nat.beq j 14) (by kernel_rfl) Z (zn (.rest _))<|au 0 Z (yl (v:=dn _ _) Z)<|au 1 Z (cA j8 Z ja Z Z)<|au 2 Z (du jc Z)<|au 3 Z (yl (v:=dn _ _) Z)<|au 4 Z (cA j8 Z ja Z Z)<|au 5 Z (du jc Z)<|au 6 Z (qe (j:=p.dst.toNat) Yd Yz Z Z (by omega) (by omega))<|au 8 Z (cG Z)<|au 9 Z (cG Z)<|au 10 Z (zz (cps:=[(0,[_]),(1,[_])]) (rs:=[_,_]) BP Z Z Z)<|yv (i:=7) (j:=11) Z Z (by kernel_rfl) ?_ ?_
      ·refine q5 (j:=p.dst.toNat) (r:=rows[p.dst.toNat]) Xd Z (qq hdl) (fun _=>.head)<|fun i61=>z6<|aV 11 Z<|y8 (rows:=[[_,_]]) lR Z Z Z Z Z<|z6<|aV 12 Z<|yn (k:=2) Zo type107 Z Z Z Z Z (fun _=>.head) (by rw[eP.av_len];rfl) (by decide) Z (by show (_+1)*16≤_;omega) (by show _+1≤_;omega)<|fun i66=>z6<|au 13 Z (qe (j:=p.dst.toNat) Yd Yz Z Z (by omega) (by omega))<|yx<|q1 (i:=14) Z (by kernel_rfl) (by kernel_rfl)<|qf (j:=p.dst.toNat) (r:=rows[p.dst.toNat]++[((k:Int),(j:Int))]) Yz Z Z (by omega) .head .head Z (eP.av_push rows[p.dst.toNat] ((k:Int),(j:Int))) (by simp)<|z6<|yz (by kernel_rfl) ?_
       exact ⟨(),vP,trivial,aC,trivial⟩
      ·refine y8 (rows:=[[_,_]]) lR Z Z Z Z Z<|z6<|aV 7 Z<|q5 (j:=p.dst.toNat) (r:=rows[p.dst.toNat]) Xd Z (qq hdl) (fun _=>.head)<|fun i61=>z6<|aV 12 Z<|yn (k:=2) Zo type107 Z Z Z Z Z (fun _=>.head) (by rw[eP.av_len];rfl) (by decide) Z (by show (_+1)*16≤_;omega) (by show _+1≤_;omega)<|fun i66=>z6<|au 13 Z (qe (j:=p.dst.toNat) Yd Yz Z Z (by omega) (by omega))<|yx<|q1 (i:=14) Z (by kernel_rfl) (by kernel_rfl)<|qf (j:=p.dst.toNat) (r:=rows[p.dst.toNat]++[((k:Int),(j:Int))]) Yz Z Z (by omega) .head .head Z (eP.av_push rows[p.dst.toNat] ((k:Int),(j:Int))) (by simp)<|z6<|yz (by kernel_rfl) ?_
       exact ⟨(),vP,trivial,aC,trivial⟩
     ·rintro _ _
      refine aM<|aA Z Z<|aa Z<|z6 ?_
      exact ⟨j+1,km,aG,⟨_,(.refl _),by rw[hsucc]⟩,hj2,by omega⟩
    ·have hd0:¬0≤p.dst:=by simpa using cd
     rw[if_neg hd0,w5] at hev
     refine zd<|aM<|aA Z Z<|aa Z<|z6 ?_
     exact ⟨j+1,km,aG,⟨_,(.refl _),by rw[hev]⟩,hj2,by omega⟩
   ·have hjn:j=b.insts.length:=by simp at cj;omega
    subst hjn
    rw[qv]
    refine y9<|aM<|aA Z Z<|aa Z<|z6 ?_
    exact ⟨k+1,dC,aG,⟨_,(.refl _),by rw[gc hk2,hbk,p9,qs]⟩,hk2,by omega⟩
 ·have hkn:k=f.blocks.length:=by simp at ck;omega
  subst hkn
  refine y9<|ah<|za (yl (v:=dn _ _) Z)<|za (yi (v:=dn _ _) Z)<|z6<|zg<|zk (x:=dn _ _) Z ?_
  exact ⟨b13,rfl,rfl⟩
end
section
open Go.Proofs.Tryz
open Go.Proofs Go.Lib Go.Shelf Go.RowKit
variable {E:World}
set_option maxRecDepth 20000
theorem fg {f:ad} (h:aR f=true):bx f:=by
 unfold aR at h
 rw[w9,iF] at h
 exact wb h.1
theorem Nn (l:List oT):((eP.av l++[AV.int .i64 (-1),AV.int .i64 0]).drop 0).take 2=[AV.int .i64 (l.head?.getD (-1,0)).1,AV.int .i64 (l.head?.getD (-1,0)).2]:=by cases l<;>rfl
theorem uR {f:ad} (hf:small f) {v:Nat} (h:v<f.vars.length):(bm f v).length≤2000000:=by
 have h1:=fv (dy f f.blocks.length) h
 have h2:v<(cE f.vars.length (dy f f.blocks.length)).length:=by rw[cR];exact h
 have h3:=kj h2
 have h4:=hf.evs (Nat.le_refl _)
 rw[qq h2,m5] at h1
 rw[Option.some.inj h1] at h3
 omega
theorem jD (f:ad) (hf:small f) (hL:aE E) (ht:aR f=true):aJ prog E 37 [.agg (bL f)] (.fro 2 ((d8 f).map eP.row)):=by
 have hv:=hf.1
 refine zo func37 Z (by decide) Z<|ah<|yb (cs:=_) Z Z Z<|bV Z<|z6<|zc<|ah<|ab jm jh Z Z<|ze (rv f hf hL) Z<|aH Z Z<|z6<|yj Z (by rw[ht];rfl)<|zd<|ah<|bV Z<|z6<|zc<|ah<|ab jm jh Z Z<|zu Z (zn (.rest _)) (oI f hf (fg ht)) ?_
 rintro r10 O10 ⟨b10,rfl,rfl⟩
 refine za (Gv.lenN Yd Z)<|aa Z<|z6<|dh (t:=3) (k:=2) (T:=107) Z<|fun i3=>yg (aK.nestTail .t1)<|zh<|ya (γ:=Nat × Nat) [10,11] (fun g=>[(12,.int .i64 g.1),(3,.own g.2 g.1)]) (fun g=>[(g.2,.grow 2 107 (((d8 f).take g.1).map eP.row).flatten),(0,Bt eP 108 107 b10 (qC f) g.1)]) (fun g=>g.1≤f.vars.length) (fun g=>f.vars.length - g.1) (0,i3) di aC (qt _) ?_
 rintro ⟨k,i3⟩ hk
 try dsimp only at *
 refine ah<|aw Z Z<|z6<|zc<|zp Z (fun ck=>?_) (fun ck=>?_)
 ·have hk2:k<f.vars.length:=by simp at ck;omega
  have hml:=uR hf hk2
  have hmt:(d8 f)[k]?=some (aB f k):=gC hk2
  have hkm:k<(d8 f).length:=by rw[iZ];exact hk2
  have hmk:(d8 f)[k]=aB f k:=by rw[qq hkm] at hmt;exact Option.some.inj hmt
  refine zd<|zc<|zh<|ah<|za (qe (j:=k) Yd Yz Z Z Z (by omega))<|az.nestShift Xd Z (qD hk2) .t1<|fun i15=>bM Z<|z6<|ah<|bw Z<|za (zz (cps:=[(0,[_]),(1,[_])]) (rs:=[_,_]) BP Z Z Z)<|y8 (rows:=[[_,_]]) lR Z Z Z Z Z<|yn (k:=2) Zo type107 Z Z Z Z Z (fun _=>.head) (by rw[eP.av_len];rfl) (by decide) Z (by show (_+1)*16≤_;omega) (by show _+1≤_;omega)<|fun i19=>bM Z<|z6<|aM<|bw Z<|bw Z<|za (Gv.idxO (j:=0) Zo Yb Z Z Z ⟨_,.head⟩ (by simp) (by show 0<_+1;omega))<|za (Gv.loadAG (l:=[_,_]) isAgg107 Yb Z ⟨_,.head⟩ (by simp) (by simp) (Nn _))<|y8 (rows:=[[_,_]]) lR Z Z Z Z Z<|yn (k:=2) Zo type107 Z Z Z Z Z (fun _=>.t1) (by rw[mZ (k:=2) (fun _=>rfl),w6,Nat.min_eq_left (by omega)]) (by decide) Z (by show (_+1)*16≤_;omega) (by show _+1≤_;omega)<|fun i25=>bM Z<|z6<|yg (qi .head)<|aM<|aA Z Z<|aa Z<|z6 ?_
  exact ⟨(k+1,i25),di,di,⟨_,(.refl _),by rw[←lE (qr hkm),hmk];rfl⟩,hk2,by dsimp only;omega⟩
 ·have hkn:k=f.vars.length:=by simp at ck;omega
  subst hkn
  rw[show (d8 f).take f.vars.length=d8 f by rw[←iZ f,qv]]
  refine y9<|ah<|bw Z<|bM Z<|z6<|zg ?_
  repeat (first|refine br ?_|refine aZ ?_)
  refine aK.fin (aK.know (t:=2) (rows:=(d8 f).map eP.row) Z .head (by first|(intro r hr;obtain ⟨x,_,rfl⟩:=List.mem_map.1 hr;rfl)|simp[fa,nQ,dg,cK,d7]) (by decide) (by rw[qx,iZ]))<|zk (x:=.fro _ _) Z ?_
  rfl
theorem DU (f:ad) (hf:small f) (hS:bx f):aJ prog E 68 [.agg (bL f)] (.bool (l4 f)):=by
 have hv:=hf.1
 refine zo func68 Z (by decide) Z<|ah<|yb (cs:=_) Z Z Z<|ac Z<|z6<|zc<|ah<|ab jm jh Z Z<|zu Z (zn (.rest _)) (oI f hf hS) ?_
 rintro r6 O6 ⟨b6,rfl,rfl⟩
 refine za (Gv.lenN Yd Z)<|aa Z<|z6<|yg (aK.nestKnow (s:=6) Z .head (zM f))<|zh<|ya (γ:=Nat) [1,6,7] (fun k=>[(8,.int .i64 k)]) (fun k=>[]) (fun k=>k≤f.vars.length∧(List.range k).all (jR f)=true) (fun k=>f.vars.length - k) 0 aG aC (⟨qt _,Z⟩) ?_
 rintro k ⟨hk,hall⟩
 refine ah<|aw Z Z<|z6<|zc<|zp Z (fun ck=>?_) (fun ck=>?_)
 ·have hk2:k<f.vars.length:=by simp at ck;omega
  refine zd<|zc<|zh<|ah<|aa Z<|za (bD k Yd Yz Z Z Z (qD hk2))<|aI Xd Z<|ay Z<|za (iw Z)<|z6<|ah<|aU Z<|ak Zo Z<|aO Z Z<|ai Z<|zm (s:=16) Z (fun c1=>?_) (fun c1=>?_)
  ·have d1:1<(bm f k).length:=by have h0:(1:Int)<((bm f k).length:Int):=(by simpa using c1);omega
   refine z7 Z Z c1<|z7 Z Z c1<|z7 Z Z c1<|z7 Z Z c1<|zb Z Z<|zb Z Z<|zb Z Z<|zb Z Z<|zb Z Z<|z7 Z Z c1<|ap Z c1 Z<|z6<|yt Z Z<|ah<|ac Z<|z6<|zg<|zk (x:=.bool _) Z ?_
   rw[show l4 f=false from dN hk2 (by unfold jR;simp[d1])]
  ·have d1:¬1<(bm f k).length:=by have h0:¬(1:Int)<((bm f k).length:Int):=(by simpa using c1);omega
   refine z8 Z Z c1<|aU Z<|z8 Z Z c1<|ak Zo Z<|z8 Z Z c1<|aO Z Z<|z8 Z Z c1<|ai Z<|zm (s:=20) Z (fun c2=>?_) (fun c2=>?_)
   ·have d2:bm f k≠[]:=by have h0:0<(bm f k).length:=(by simpa using c2);exact List.ne_nil_of_length_pos h0
    refine z8 Z Z c2<|aa Z<|z8 Z Z c2<|ae je Z jg Z Z<|z8 Z Z c2<|aI jn Z<|z8 Z Z c2<|ak j9 Z<|z8 Z Z c2<|aw Z Z<|z8 Z Z c1<|ap Z c2 Z<|aq Z c1 Z<|z6<|zt Z (fun c3=>?_) (fun c3=>?_)
    ·have d3:k<f.params.length:=by simpa using c3
     refine ah<|ac Z<|z6<|zg<|zk (x:=.bool _) Z ?_
     rw[show l4 f=false from dN hk2 (by unfold jR;simp[d2,d3,List.length_pos_iff])]
    ·have d3:¬k<f.params.length:=by simpa using c3
     refine zd<|aM<|aA Z Z<|aa Z<|z6 ?_
     exact ⟨k+1,dC,aG,aC,⟨hk2,cQ hall (by unfold jR;simp[d1,d3])⟩,by omega⟩
   ·have d2:bm f k=[]:=by simpa using c2
    refine z7 Z Z c2<|z7 Z Z c2<|z7 Z Z c2<|z7 Z Z c2<|z7 Z Z c2<|z8 Z Z c1<|aq Z c2 Z<|aq Z c1 Z<|z6<|yj Z Z<|zd<|aM<|aA Z Z<|aa Z<|z6 ?_
    exact ⟨k+1,dC,aG,aC,⟨hk2,cQ hall (by unfold jR;simp[d2])⟩,by omega⟩
 ·have hkn:k=f.vars.length:=by simp at ck;omega
  subst hkn
  refine y9<|ah<|ac Z<|z6<|zg<|zk (x:=.bool _) Z ?_
  rw[show l4 f=true from hall]
end
section
open Go.Proofs.Tryz
open Go.Proofs Go.Lib Go.Shelf Go.RowKit
variable {E:World}
set_option maxRecDepth 20000
theorem pc {p:Int→Bool} {fn:FuncId} {c:List AV} (xs:List Int) (hl:xs.length≤281474976710656) (hp:∀x∈xs,aJ prog E fn ([.int .i64 x]++c) (.bool (p x))) :
  aJ prog E 146 [.fro 1 (xs.map fa),.fn fn [] c] (.int .i64 (cU p xs 0)):=by
 refine zo func146 Z (by decide) Z<|ah<|ay Z<|z6<|zc<|ah<|aU Z<|ak j9 Z<|aa Z<|z6<|zh<|ya (γ:=Nat) [0,1,7] (fun k=>[(8,.int .i64 k)]) (fun k=>[]) (fun k=>k≤xs.length∧(xs.take k).all (fun x=>!p x)) (fun k=>xs.length - k) 0 aG aC (⟨qt _,Z⟩) ?_
 rintro k ⟨hk,hall⟩
 refine ah<|aw Z Z<|z6<|zc<|zp Z (fun ck=>?_) (fun ck=>?_)
 ·have hk2:k<xs.length:=by simp at ck;omega
  refine zd<|zc<|zh<|ah<|aa Z<|ay Z<|z6<|ah<|za (yl (v:=.fn _ _ _) Z)<|aU Z<|aa Z<|za (bD k j9 ja Z Z Z (qq hk2))<|ax jc Z<|az.callVP Z (hp _ (qu hk2)) Z<|z6<|zt Z (fun cp=>?_) (fun cp=>?_)
  ·refine ah<|aa Z<|ay Z<|z6<|zg<|zk (x:=.int _ _) Z ?_
   rw[bR p xs k hk hall,List.drop_eq_getElem_cons hk2,cU,if_pos cp]
  ·refine zd<|aM<|aA Z Z<|aa Z<|z6 ?_
   exact ⟨k+1,dC,aG,aC,⟨hk2,by rw[qr hk2,List.all_append,hall];simp[cp]⟩,by omega⟩
 ·have hkn:k=xs.length:=by simp at ck;omega
  refine y9<|ah<|ay Z<|z6<|zg<|zk (x:=.int _ _) Z ?_
  rw[bR p xs k hk hall,hkn,List.drop_length,cU]
theorem mH {p:Int→Bool} {fn:FuncId} {c:List AV} (xs:List Int) (hl:xs.length≤281474976710656) (hp:∀x∈xs,aJ prog E fn ([.int .i64 x]++c) (.bool (p x))) :
  aJ prog E 107 [.fro 1 (xs.map fa),.fn fn [] c] (.bool (xs.any p)):=by
 refine zo func107 Z (by decide) Z<|ah<|ac Z<|z6<|ah<|aU Z<|za (yl (v:=.fn _ _ _) Z)<|ze (pc xs hl hp) Z<|za (qa Z Z)<|ac Z<|z6<|zg<|zk (x:=.bool _) Z ?_
 rw[fz]
theorem kC (f:ad) (hE:bF f) (hn:f.blocks.length≤1000) (m:oT) (b a:Int) (x y:AV):aJ prog E 96 [rC f x y,.agg [.int .i64 m.1,.int .i64 m.2],.int .i64 b,.int .i64 a] (.bool (dH f m b a)):=by
 refine zo func96 Z (by decide) Z<|ah<|yb (cs:=_) Z Z Z<|ac Z<|z6<|zc<|zh<|ah<|ae Yr Z ja Z Z<|ax jc Z<|aw Z Z<|ac Z<|z6<|zp Z (fun c0=>?_) (fun c0=>?_)
 ·refine ah<|ac Z<|z6<|zg<|zk (x:=.bool _) Z ?_
  rw[dH,if_pos c0]
 ·refine ah<|ae Yr Z ja Z Z<|ax jc Z<|aa Z<|aj Z Z<|ac Z<|z6<|zt Z (fun c1=>?_) (fun c1=>?_)
  ·have d1:m.1=b:=by simpa using c1
   refine ah<|ae Yr Z ja Z Z<|ax jc Z<|aa Z<|aw Z Z<|ac Z<|z6<|zg<|zk (x:=.bool _) Z ?_
   rw[dH,if_neg c0,if_pos d1]
  ·have d1:¬m.1=b:=by simpa using c1
   refine zd<|ah<|za (gS Z)<|ae Yr Z ja Z Z<|ax jc Z<|aa Z<|ze (tP f hE hn m.1 b x y) Z<|ac Z<|z6<|zg<|zk (x:=.bool _) Z ?_
   rw[dH,if_neg c0,if_neg d1]
theorem mI {f:ad} {v:Int} (h:bz f v=true):0≤v∧(d8 f)[v.toNat]?=some (aB f v):=by
 have h1:0≤v∧v<f.vars.length:=by simpa [bz] using h
 refine ⟨h1.1,?_⟩
 have:=gC (f:=f) (v:=v.toNat) (by omega)
 rwa [show ((v.toNat:Nat):Int)=v by omega] at this
theorem uS (f:ad) (hE:bF f) (hn:f.blocks.length≤1000) (i k:Nat) (v:Int) (hv:bz f v=true) (x y:AV) :
  aJ prog E 108 ([.int .i64 v]++[.pf [rC f x y],.pf [.fro 2 ((d8 f).map eP.row)],.pf [.int .i64 i],.pf [.int .i64 k]]) (.bool (!dH f (aB f v) i k)):=by
 obtain ⟨hv0,hvg⟩:=mI hv
 refine zo func108 Z (by decide) Z<|ah<|ac Z<|z6<|zc<|y7 (fun j=>false) (by kernel_rfl) Z (zn (.rest _))<|au 0 Z (yo (c:=.pf _) isAgg103 Z)<|au 1 Z (iS Xd Z)<|au 2 Z (cG Z)<|au 3 Z (bD v.toNat Zo Yb Z Z (by omega) hvg)<|au 4 Z (yk isAgg107 Yb Z Z)<|au 5 Z (du jc Z)<|au 6 Z (du jc Z)<|aV 7 Z<|ze (kC f hE hn (aB f v) i k x y) Z<|z6<|au 8 Z (Gv.not Z)<|au 9 Z (HM Z)<|bY<|zg<|zk (x:=.bool _) Z ?_
 rfl
set_option maxHeartbeats 4000000 in
theorem wJ (f:ad) (hE:bF f) (hf:small f) (hS:bx f) (i:Nat) (hi:i<f.blocks.length) (x y:AV) :
  aJ prog E 69 [.agg (bL f),rC f x y,.fro 2 ((d8 f).map eP.row),.int .i64 i] (.bool (LJ f i)):=by
 have hn:=hf.2.2.1
 obtain ⟨b,hbk⟩:∃b,f.blocks[i]=b:=⟨_,rfl⟩
 have hget:f.blocks[i]?=some b:=by rw[qq hi,hbk]
 have hmem:b∈f.blocks:=hbk▸qu hi
 obtain ⟨hb0,hb1,hb2,hb3,hb4⟩:=hf.2.2.2.2 b hmem
 obtain ⟨hPh,hIn,hTm⟩:=hS.2.2.2.2.2 b hmem
 rw[qE hget]
 refine zo func69 Z (by decide) Z<|ah<|yb (cs:=_) Z Z Z<|yb (cs:=[_]) Z Z Z<|yb (cs:=[_]) Z Z Z<|yb (cs:=[_]) Z Z Z<|ac Z<|z6<|ah<|ae je Z Ze Z Z<|aI Zl Z<|ax jc Z<|za (bD i jk jv Z Z Z hget)<|ab Yk jv Z Z<|zy (cs:=[.str ⟨#[]⟩,.raw (.slice none 0 0),.raw (.slice none 0 0),.int .i64 0,.int .i64 0,.int .i64 0,.int .i64 0]) Zn Z Z<|fun i9=>zq jv Z Z Z Z Z Z .head Z<|zf (yd (t:=9) Z .head)<|z6<|zc<|ah<|ae jl Z Yh Z Z<|aI Yt Z<|ak Z2 Z<|aa Z<|z6<|zh<|ya (γ:=Nat) [4,5,6,7,9,23,24] (fun j=>[(25,.int .i64 j)]) (fun j=>[]) (fun j=>j≤b.phis.length∧(b.phis.take j).all (Kg f)=true) (fun j=>b.phis.length - j) 0 aG aC (⟨qt _,Z⟩) ?_
 rintro j ⟨hj,hjall⟩
 refine ah<|aw Z Z<|z6<|zc<|zp Z (fun cj=>?_) (fun cj=>?_)
 ·have hj2:j<b.phis.length:=by simp at cj;omega
  obtain ⟨p,hp⟩:∃p,b.phis[j]=p:=⟨_,rfl⟩
  have hpm:p∈b.phis:=hp▸qu hj2
  obtain ⟨hpd,hpl,hpn,hpa,hpf⟩:=hPh p hpm
  have hpb:=hb3 p hpm
  refine zd<|zc<|zh<|ah<|za (bD j Z2 jz Z Z Z (by rw[qq hj2,hp])) ?_
  refine ab Yl jz Z Z<|zy (cs:=[.int .i64 0,.raw (.slice none 0 0),.raw (.slice none 0 0)]) Zb Z Z<|fun i11=>zq jz Z Z Z Z Z Z .head Z<|zf (yd (t:=11) Z .head)<|z6<|ah<|ae jt Z jg Z Z<|aI jn Z<|ak j9 Z<|aa Z<|z6<|zh<|ya (γ:=Nat) [4,5,6,7,9,11,23,24,25,30,31] (fun k=>[(32,.int .i64 k)]) (fun k=>[]) (fun k=>k≤p.args.length∧((p.args.zip p.from_).take k).all (fun q=>dH f (aB f q.1) q.2 (jO f q.2))=true) (fun k=>p.args.length - k) 0 aG aC (⟨qt _,Z⟩) ?_
  rintro k ⟨hk,hkall⟩
  refine ah<|aw Z Z<|z6<|zc<|zp Z (fun ck=>?_) (fun ck=>?_)
  ·have hk2:k<p.args.length:=by simp at ck;omega
   have hk3:k<p.from_.length:=by omega
   obtain ⟨v,hv⟩:∃v,p.args[k]=v:=⟨_,rfl⟩
   obtain ⟨c,hc⟩:∃c,p.from_[k]=c:=⟨_,rfl⟩
   obtain ⟨hv0,hvg⟩:=mI (List.all_eq_true.1 hpa v (hv▸qu hk2))
   have hcr:0≤c∧c<f.blocks.length:=by have:=List.all_eq_true.1 hpf c (hc▸qu hk3);simpa [eZ] using this
   obtain ⟨d,hd⟩:∃d,f.blocks[c.toNat]'(by omega)=d:=⟨_,rfl⟩
   have hdg:f.blocks[c.toNat]?=some d:=by rw[qq (by omega),hd]
   have hla:jO f c=d.insts.length:=by unfold jO;rw[hdg];rfl
   have hz:k<(p.args.zip p.from_).length:=by rw[List.length_zip];omega
   have hzk:(p.args.zip p.from_)[k]=(v,c):=by rw[List.getElem_zip,hv,hc]
   refine zd<|zc<|zh<|ah<|aa Z<|za (bD k j9 ja Z Z Z (by rw[qq hk2,hv])) ?_
   refine ax jc Z<|ay Z<|ay Z<|z6<|ah<|ae jt Z jg Z Z<|aI jn Z<|aa Z<|za (bD k j9 ja Z Z Z (by rw[qq hk3,hc])) ?_
   refine ax jc Z<|ay Z<|z6<|zc<|y7 (fun j=>false) (by kernel_rfl) Z (zn (.rest _))<|au 0 Z (yo (c:=.pf _) isAgg103 Z)<|au 1 Z (iS Xd Z)<|au 2 Z (cG Z)<|au 3 Z (bD v.toNat Zo Yb Z Z (by omega) hvg)<|au 4 Z (yk isAgg107 Yb Z Z)<|au 5 Z (cG Z)<|au 6 Z (cA je Z Ze Z Z)<|au 7 Z (iS Zl Z)<|au 8 Z (cG Z)<|au 9 Z (bD c.toNat jk jv Z Z (by omega) hdg)<|au 10 Z (cA jl Z Y8 Z Z)<|au 11 Z (iS Yi Z)<|au 12 Z (Gv.lenM jx Z)<|aV 13 Z<|ze (kC f hE hn (aB f v) c d.insts.length x y) Z<|z6<|au 14 Z (Gv.not Z)<|bY<|zt Z (fun cq=>?_) (fun cq=>?_)
   ·have hq:dH f (aB f v) c (jO f c)=false:=by rw[hla];simpa using cq
    refine ah<|ac Z<|z6<|zg<|zk (x:=.bool _) Z ?_
    rw[sG,show b.phis.all (Kg f)=false from Bool.eq_false_iff.2 (dD hj2 (by rw[hp];unfold Kg;exact Bool.eq_false_iff.2 (dD hz (by rw[hzk];exact hq))))];rfl
   ·have hq:dH f (aB f v) c (jO f c)=true:=by rw[hla];simpa using cq
    refine zd<|aM<|aA Z Z<|aa Z<|z6 ?_
    exact ⟨k+1,la,aG,aC,⟨hk2,bZ hz hkall (by rw[hzk];exact hq)⟩,by omega⟩
  ·have hkn:k=p.args.length:=by simp at ck;omega
   have hzl:(p.args.zip p.from_).length=p.args.length:=by rw[List.length_zip];omega
   rw[hkn,←hzl,qv] at hkall
   refine y9<|aM<|aA Z Z<|aa Z<|z6 ?_
   exact ⟨j+1,km,aG,aC,⟨hj2,bZ hj2 hjall (by rw[hp];exact hkall)⟩,by omega⟩
 ·have hjn:j=b.phis.length:=by simp at cj;omega
  subst hjn
  rw[qv] at hjall
  refine y9<|zc<|ah<|ae jl Z Y8 Z Z<|aI Yi Z<|ak jx Z<|aa Z<|z6<|zh<|ya (γ:=Nat) [5,6,7,9,60,61] (fun k=>[(62,.int .i64 k)]) (fun k=>[]) (fun k=>k≤b.insts.length∧((b.insts.zipIdx).take k).all (E8 f i)=true) (fun k=>b.insts.length - k) 0 aG aC (⟨qt _,Z⟩) ?_
  rintro k ⟨hk,hkall⟩
  refine ah<|aw Z Z<|z6<|zc<|zp Z (fun ck=>?_) (fun ck=>?_)
  ·have hk2:k<b.insts.length:=by simp at ck;omega
   obtain ⟨z,hzk⟩:∃z,b.insts[k]=z:=⟨_,rfl⟩
   have hzm:z∈b.insts:=hzk▸qu hk2
   have hI:=fk (hIn z hzm)
   have hzl:=hb4 z hzm
   have hzi:k<b.insts.zipIdx.length:=by simp;exact hk2
   have hze:b.insts.zipIdx[k]=(z,k):=by simp[hzk]
   refine zd<|zc<|zh<|ah<|aa Z<|za (bD k jx Z9 Z Z Z (by rw[qq hk2,hzk])) ?_
   refine ab Ye Z9 Z Z<|zy (cs:=[.int .i64 0]) X2 Z Z<|fun i15=>zy (cs:=[.int .i64 0,.int .i64 0,.raw (.slice none 0 0),.int .i64 0]) Yf Z Z<|fun i16=>zq ja Z Z Z Z Z Z .t1 Z<|zf (yd (t:=15) Z .t1)<|zq Z9 Z Z Z Z Z Z .head Z<|zf (yd (t:=16) Z .head)<|z6<|ah<|ae j8 Z jg Z Z<|aI jn Z<|za (Gv.func Z Z)<|ze (mH z.args (by omega) (fun v hv=>uS f hE hn i k v (hI.args v hv) x y)) Z<|z6<|zt Z (fun cq=>?_) (fun cq=>?_)
   ·have hq:E8 f i (z,k)=false:=by
     unfold E8
     rw[Bool.eq_false_iff];intro h
     obtain ⟨v,hv1,hv2⟩:=List.any_eq_true.1 (show (z.args.any fun v=>!dH f (aB f v) i k)=true by simpa using cq)
     have:=List.all_eq_true.1 h v hv1
     rw[this] at hv2;cases hv2
    refine ah<|ac Z<|z6<|zg<|zk (x:=.bool _) Z ?_
    rw[sG,hjall,show b.insts.zipIdx.all (E8 f i)=false from Bool.eq_false_iff.2 (dD hzi (by rw[hze];exact hq))];rfl
   ·have hq:E8 f i (z,k)=true:=by
     unfold E8
     rw[List.all_eq_true];intro v hv
     have h0:(z.args.any fun v=>!dH f (aB f v) i k)=false:=by simpa using cq
     have:=List.any_eq_false.1 h0 v hv
     simpa using this
    refine zd<|aM<|aA Z Z<|aa Z<|z6 ?_
    exact ⟨k+1,pt,aG,aC,⟨hk2,bZ hzi hkall (by rw[hze];exact hq)⟩,by omega⟩
  ·have hkn:k=b.insts.length:=by simp at ck;omega
   rw[hkn,show b.insts.length=b.insts.zipIdx.length by simp,qv] at hkall
   refine y9<|zc<|y7 (fun j=>false) (by kernel_rfl) Z (zn (.rest _))<|au 0 Z (cA jl Z Ya Z Z)<|au 1 Z (cA jj Z Yg Z Z)<|au 2 Z (du Ys Z)<|au 3 Z (Gv.eqlI Z Z)<|au 4 Z (l5 Z)<|q4 (s:=76) Z (fun c0=>?_) (fun c0=>?_)
   ·have d0:b.term.kind=0:=by simpa using c0
    refine bi 5 Z Z Z c0<|bi 6 Z Z Z c0<|bi 7 Z Z Z c0<|bi 8 Z Z Z c0<|bi 9 Z Z Z c0<|bi 10 Z Z Z c0<|bi 11 Z Z Z c0<|bi 12 Z Z Z c0<|bi 13 Z Z Z c0<|bi 14 Z Z Z c0<|bi 15 Z Z Z c0<|bi 16 Z Z Z c0<|au 17 Z (oB Z c0 Z)<|au 18 Z (HM Z)<|bY<|zg<|zk (x:=.bool _) Z ?_
    rw[sG,hjall,hkall,Lk,d0];rfl
   ·have d0:¬b.term.kind=0:=by simpa using c0
    obtain ⟨hv0,hvg⟩:=mI (jV hTm d0)
    refine bB 5 Z Z Z c0 (yo (c:=.pf _) isAgg103 Z)<|bB 6 Z Z Z c0 (iS Xd Z)<|bB 7 Z Z Z c0 (cA jl Z Ya Z Z)<|bB 8 Z Z Z c0 (cA jj Z ja Z Z)<|bB 9 Z Z Z c0 (du jc Z)<|bB 10 Z Z Z c0 (bD b.term.var.toNat Zo Yb Z Z (by omega) hvg)<|bB 11 Z Z Z c0 (yk isAgg107 Yb Z Z)<|bB 12 Z Z Z c0 (du jc Z)<|bB 13 Z Z Z c0 (cA jl Z Y8 Z Z)<|bB 14 Z Z Z c0 (iS Yi Z)<|bB 15 Z Z Z c0 (Gv.lenM jx Z)<|aV 16 Z<|z8 Z Z c0<|ze (kC f hE hn (aB f b.term.var) i b.insts.length x y) Z<|z6<|au 17 Z (kY Z c0 Z)<|au 18 Z (HM Z)<|bY<|zg<|zk (x:=.bool _) Z ?_
    rw[sG,hjall,hkall,Lk,w8 d0];rfl
theorem iG (f:ad) (hf:small f) (hL:aE E):aJ prog E 34 [.agg (bL f)] (.int .i64 (if (aR f&&bG f)=true then 0 else 3)):=by
 have hn:=hf.2.2.1
 refine zo func34 Z (by decide) Z<|ah<|yb (cs:=_) Z Z Z<|ay Z<|z6<|zc<|ah<|ab jm jh Z Z<|ze (uO f hf hL) Z<|aH Z Z<|ai Z<|zm (s:=10) Z (fun c1=>?_) (fun c1=>?_)
 ·have d1:(aR f&&db f)=false:=by
   cases h:(aR f&&db f) with
   |false=>rfl
   |true=>rw[h] at c1;simp at c1
  refine z7 Z Z c1<|z7 Z Z c1<|z7 Z Z c1<|ap Z c1 Z<|ai Z<|z7 Z Z Z<|z7 Z Z Z<|z7 Z Z Z<|ap Z Z Z<|z6<|yt Z Z<|ah<|ay Z<|z6<|zg<|zk (x:=.int _ _) Z ?_
  rw[show (aR f&&bG f)=false by unfold bG;cases h:aR f<;>simp_all];rfl
 ·have d1:(aR f&&db f)=true:=by
   cases h:(aR f&&db f) with
   |true=>rfl
   |false=>rw[h] at c1;simp at c1
  have ht:aR f=true:=by simp at d1;exact d1.1
  have hj:db f=true:=by simp at d1;exact d1.2
  have hE:=bT ht
  have hS:=fg ht
  refine z8 Z Z c1<|ab jm jh Z Z<|z8 Z Z c1<|ze (wz f hf hL ht) Z<|z8 Z Z c1<|ze (rx (ga (ao f) f.blocks.length) false (by rw[p6];omega)) Z<|aq Z c1 Z<|ai Z<|zm (s:=15) Z (fun c2=>?_) (fun c2=>?_)
  ·refine z7 Z Z c2<|z7 Z Z c2<|z7 Z Z c2<|ap Z c2 Z<|z6<|yt Z Z<|ah<|ay Z<|z6<|zg<|zk (x:=.int _ _) Z ?_
   rw[show bG f=false by unfold bG;simp_all];simp
  ·refine z8 Z Z c2<|ab jm jh Z Z<|z8 Z Z c2<|ze (DU f hf hS) Z<|z8 Z Z c2<|aF Z<|aq Z c2 Z<|z6<|zt Z (fun c3=>?_) (fun c3=>?_)
   ·refine ah<|ay Z<|z6<|zg<|zk (x:=.int _ _) Z ?_
    rw[show bG f=false by unfold bG;simp_all];simp
   ·refine zd<|ah<|ab jm jh Z Z<|ze (rD f hf hL ht) Z<|za (m6 Z)<|za (yy (v:=.pf _) Z Z)<|za (mq Z Z)<|za (yi (v:=.pf _) Z)<|ay Z<|z6<|zc<|ah<|aa Z<|aH Z Z<|z6<|yj Z Z<|zd<|ah<|ab jm jh Z Z<|ze (jD f hf hL ht) Z<|za (iw Z)<|z6<|zc<|ah<|ae je Z Ze Z Z<|aI Zl Z<|ak jk Z<|aa Z<|z6<|zh<|ya (γ:=Nat) [1,3,5,32] (fun k=>[(33,.int .i64 k)]) (fun k=>[]) (fun k=>k≤f.blocks.length∧(List.range k).all (LJ f)=true) (fun k=>f.blocks.length - k) 0 aG aC (⟨qt _,Z⟩) ?_
    rintro k ⟨hk,hall⟩
    refine ah<|aw Z Z<|z6<|zc<|zp Z (fun ck=>?_) (fun ck=>?_)
    ·have hk2:k<f.blocks.length:=by simp at ck;omega
     refine zd<|zc<|zh<|ah<|aa Z<|ay Z<|z6<|ah<|ab jm jh Z Z<|za (gS Z)<|aU Z<|aa Z<|ze (wJ f hE hf hS k hk2 (oY eI (BO f)) .any) Z<|aF Z<|z6<|zt Z (fun cq=>?_) (fun cq=>?_)
     ·refine ah<|ay Z<|z6<|zg<|zk (x:=.int _ _) Z ?_
      rw[show bG f=false by unfold bG;rw[show zN f=false from dN hk2 (by simpa using cq)];simp];simp
     ·refine zd<|aM<|aA Z Z<|aa Z<|z6 ?_
      exact ⟨k+1,e7,aG,aC,⟨hk2,cQ hall (by simpa using cq)⟩,by omega⟩
    ·have hkn:k=f.blocks.length:=by simp at ck;omega
     subst hkn
     refine y9<|ah<|ay Z<|z6<|zg<|zk (x:=.int _ _) Z ?_
     rw[ht,show bG f=true by unfold bG;rw[show zN f=true from hall];simp_all];rfl
end
section
open Go.Proofs.Tryz
open Go.Proofs Go.Lib Go.Shelf Go.RowKit
variable {E:World}
set_option maxRecDepth 20000
theorem gn (t:gA) (b:Int):b∈cX t↔(t.kind=0∧t.to0=b)∨(t.kind=1∧(t.to0=b∨t.to1=b)):=by
 unfold cX
 by_cases h0:t.kind=0
 ·rw[if_pos h0];simp[h0];exact eq_comm
 ·rw[if_neg h0]
  by_cases h1:t.kind=1
  ·rw[if_pos h1]
   by_cases h2:t.to0=t.to1
   ·rw[if_pos h2];simp[h1,h2];exact eq_comm
   ·rw[if_neg h2];simp[h1]
    constructor
    ·rintro (h|h);exact .inl h.symm;exact .inr h.symm
    ·rintro (h|h);exact .inl h.symm;exact .inr h.symm
  ·rw[if_neg h1];simp[h0,h1]
theorem mJ (f:ad) (hn:f.blocks.length≤1000) (a b:Int) (h0:0≤a) (ha:a<f.blocks.length):aJ prog E 84 [.agg (bL f),.int .i64 a,.int .i64 b] (.bool (decide (b∈ao f a))):=by
 obtain ⟨c,hc⟩:∃c,f.blocks[a.toNat]'(by omega)=c:=⟨_,rfl⟩
 have hget:f.blocks[a.toNat]?=some c:=by rw[qq (by omega),hc]
 have hE:ao f a=cX c.term:=by rw[mn h0 (by omega),hc]
 rw[hE]
 refine zo func84 Z (by decide) Z<|ah<|yb (cs:=_) Z Z Z<|ac Z<|z6<|ah<|ae je Z Ze Z Z<|aI Zl Z<|aa Z<|za (bD a.toNat jk jv Z Z (by omega) hget)<|ae jl Z Ya Z Z<|ab isAgg49 Ya Z Z<|zy (cs:=[.int .i64 0,.int .i64 0,.int .i64 0,.int .i64 0]) zeroValue49 Z Z<|fun i7=>zq Ya Z Z Z Z Z Z .head Z<|zf (yd (t:=7) Z .head)<|z6<|ah<|ae jj Z Yg Z Z<|ax Ys Z<|aj Z Z<|ai Z<|zm (s:=17) Z (fun c1=>?_) (fun c1=>?_)
 ·refine z8 Z Z c1<|ae jj Z Zk Z Z<|z8 Z Z c1<|za (yp (j:=0) Z4 ja Z Z Z (by decide) Z)<|z8 Z Z c1<|ax jc Z<|z8 Z Z c1<|aa Z<|z8 Z Z c1<|aj Z Z<|ap Z c1 Z<|ai Z<|zm (s:=24) Z (fun c2=>?_) (fun c2=>?_)
  ·refine z7 Z Z c2<|z7 Z Z c2<|z7 Z Z c2<|z7 Z Z c2<|zb Z Z<|zb Z Z<|zb Z Z<|zb Z Z<|zb Z Z<|zb Z Z<|zb Z Z<|zb Z Z<|zb Z Z<|zb Z Z<|zb Z Z<|zb Z Z<|z7 Z Z c2<|ap Z c2 Z<|ac Z<|z6<|zg<|zk (x:=.bool _) Z<|congrArg AV.bool ?_;rw[qz];simp only[wc,gn];simp_all
  ·refine z8 Z Z c2<|ae jj Z Yg Z Z<|z8 Z Z c2<|ax Ys Z<|z8 Z Z c2<|aj Z Z<|z8 Z Z c2<|ai Z<|zm (s:=28) Z (fun c3=>?_) (fun c3=>?_)
   ·refine z8 Z Z c3<|ae jj Z Zk Z Z<|z8 Z Z c3<|za (yp (j:=0) Z4 ja Z Z Z (by decide) Z)<|z8 Z Z c3<|ax jc Z<|z8 Z Z c3<|aa Z<|z8 Z Z c3<|aj Z Z<|z8 Z Z c3<|ai Z<|zm (s:=34) Z (fun c4=>?_) (fun c4=>?_)
    ·refine z7 Z Z c4<|z7 Z Z c4<|z7 Z Z c4<|z7 Z Z c4<|z7 Z Z c4<|z8 Z Z c3<|ap Z c4 Z<|z8 Z Z c2<|ap Z c3 Z<|aq Z c2 Z<|ac Z<|z6<|zg<|zk (x:=.bool _) Z<|congrArg AV.bool ?_;rw[qz];simp only[wc,gn];simp_all
    ·refine z8 Z Z c4<|ae jj Z Zk Z Z<|z8 Z Z c4<|za (yp (j:=1) Z4 ja Z Z Z (by decide) Z)<|z8 Z Z c4<|ax jc Z<|z8 Z Z c4<|aa Z<|z8 Z Z c4<|aj Z Z<|z8 Z Z c3<|aq Z c4 Z<|z8 Z Z c2<|ap Z c3 Z<|aq Z c2 Z<|ac Z<|z6<|zg<|zk (x:=.bool _) Z<|congrArg AV.bool ?_;rw[qz];simp only[wc,gn];simp_all
   ·refine z7 Z Z c3<|z7 Z Z c3<|z7 Z Z c3<|z7 Z Z c3<|z7 Z Z c3<|z7 Z Z c3<|zb Z Z<|zb Z Z<|zb Z Z<|zb Z Z<|zb Z Z<|z7 Z Z c3<|z8 Z Z c2<|aq Z c3 Z<|aq Z c2 Z<|ac Z<|z6<|zg<|zk (x:=.bool _) Z<|congrArg AV.bool ?_;rw[qz];simp only[wc,gn];simp_all
 ·refine z7 Z Z c1<|z7 Z Z c1<|z7 Z Z c1<|z7 Z Z c1<|z7 Z Z c1<|aq Z c1 Z<|ai Z<|z8 Z Z Z<|ae jj Z Yg Z Z<|z8 Z Z Z<|ax Ys Z<|z8 Z Z Z<|aj Z Z<|z8 Z Z Z<|ai Z<|zm (s:=28) Z (fun c5=>?_) (fun c5=>?_)
  ·refine z8 Z Z c5<|ae jj Z Zk Z Z<|z8 Z Z c5<|za (yp (j:=0) Z4 ja Z Z Z (by decide) Z)<|z8 Z Z c5<|ax jc Z<|z8 Z Z c5<|aa Z<|z8 Z Z c5<|aj Z Z<|z8 Z Z c5<|ai Z<|zm (s:=34) Z (fun c6=>?_) (fun c6=>?_)
   ·refine z7 Z Z c6<|z7 Z Z c6<|z7 Z Z c6<|z7 Z Z c6<|z7 Z Z c6<|z8 Z Z c5<|ap Z c6 Z<|z8 Z Z Z<|ap Z c5 Z<|aq Z Z Z<|ac Z<|z6<|zg<|zk (x:=.bool _) Z<|congrArg AV.bool ?_;rw[qz];simp only[wc,gn];simp_all
   ·refine z8 Z Z c6<|ae jj Z Zk Z Z<|z8 Z Z c6<|za (yp (j:=1) Z4 ja Z Z Z (by decide) Z)<|z8 Z Z c6<|ax jc Z<|z8 Z Z c6<|aa Z<|z8 Z Z c6<|aj Z Z<|z8 Z Z c5<|aq Z c6 Z<|z8 Z Z Z<|ap Z c5 Z<|aq Z Z Z<|ac Z<|z6<|zg<|zk (x:=.bool _) Z<|congrArg AV.bool ?_;rw[qz];simp only[wc,gn];simp_all
  ·refine z7 Z Z c5<|z7 Z Z c5<|z7 Z Z c5<|z7 Z Z c5<|z7 Z Z c5<|z7 Z Z c5<|zb Z Z<|zb Z Z<|zb Z Z<|zb Z Z<|zb Z Z<|z7 Z Z c5<|z8 Z Z Z<|aq Z c5 Z<|aq Z Z Z<|ac Z<|z6<|zg<|zk (x:=.bool _) Z<|congrArg AV.bool ?_;rw[qz];simp only[wc,gn];simp_all
theorem IP {a shut x:Int} {out:List Bool} {y:Nat} (hx:zO a out shut x) (h0:0≤x) (hy:y<out.length):zO a (out.set y true) shut x:=by
 refine ⟨hx.1,?_⟩
 rcases hx.2 with h|h
 ·exact .inl h
 ·right
  unfold gb at h ⊢
  rw[List.getElem?_set]
  by_cases e:y=x.toNat
  ·rw[if_pos e,if_pos (by omega)];rfl
  ·rw[if_neg e];exact h
set_option maxHeartbeats 4000000 in
theorem Ge (f:ad) (hE:bF f) (hn:f.blocks.length≤1000) (a shut:Int) (h0:0≤a) (ha:a<f.blocks.length):ba prog E 85 [.agg (bL f),.int .i64 a,.int .i64 shut] []
  fun x O=>∃i:Nat,x=.own i f.blocks.length∧O=[(i,.grow 1 4 (cB (lb (ao f) f.blocks.length a shut)))]:=by
 have hG:=hE.grph
 obtain ⟨n,hnn⟩:∃n,f.blocks.length=n:=⟨_,rfl⟩
 rw[hnn] at hG hn ha ⊢
 refine zo func85 Z (by decide) Z<|ah<|yb (cs:=_) Z Z Z<|bV Z<|z6<|ah<|ae je Z Ze Z Z<|aI Zl Z<|ak jk Z<|ay Z<|z6<|ah<|aa Z<|az.makeB (m:=n) Za type4 Z Z Z Z Z (by omega) (by omega) (by show (1:Int)*_≤_;omega) (by omega)<|fun i16=>bM Z<|z6<|zc<|ah<|ac Z<|z6<|zh<|ya (γ:=List Bool × Bool) [1,2,3,7,8] (fun g=>[(9,.bool g.2)]) (fun g=>[(i16,.grow 1 4 (cB g.1))]) (fun g=>FrS (ao f) a shut n g.1∧(g.2=false→Df (ao f) a shut g.1 n)) (fun g=>2*mr g.1+(if g.2=true then 1 else 0)) (List.replicate n false,true) aG aC (⟨FrS.begin _ _ _ _,fun h=>by cases h⟩) ?_
 rintro ⟨o0,again⟩ ⟨hS0,hfin⟩
 try dsimp only at *
 refine zc<|ah<|ai Z<|z6<|zt Z (fun ca=>?_) (fun ca=>?_)
 ·have ca:again=true:=by simpa using ca
  subst ca
  refine zd<|zh<|ah<|ac Z<|z6<|ah<|aa Z<|aa Z<|z6<|zh<|ya (γ:=Nat × List Bool × Bool) [1,2,3,7,8,18] (fun g=>[(19,.int .i64 g.1),(9,.bool g.2.2)]) (fun g=>[(i16,.grow 1 4 (cB g.2.1))]) (fun g=>g.1≤n∧LL (ao f) a shut n o0 g.2.1 g.2.2∧(g.2.2=false→Df (ao f) a shut g.2.1 g.1)) (fun g=>n - g.1) (0,o0,false) di aC (⟨qt _,⟨hS0,Nat.le_refl _,fun h=>(by cases h),fun _=>Z⟩,fun _ x hx=>by omega⟩) ?_
  rintro ⟨x,out,ag⟩ ⟨hx,hR,hcl⟩
  try dsimp only at *
  have hol:=hR.len
  refine ah<|aw Z Z<|z6<|zc<|zp Z (fun cx=>?_) (fun cx=>?_)
  ·have hx2:x<n:=by omega
   have hgx:out[x]?=some (gb out (x:Int)):=ko (by omega)
   refine zd<|zc<|zh<|ah<|aa Z<|ay Z<|z6<|zc<|zc<|yf (γ:=Bool) [1,2,3,7,8,9,10,18,19] (fun u=>[(36,.bool u)]) (fun u=>[(i16,.grow 1 4 (cB out))]) (fun u=>u=!decide (zO a out shut x)) ?_ (fun _ _ h=>h) ?_
   ·refine aM<|aa Z<|aa Z<|aj Z Z<|ai Z<|zm (s:=25) Z (fun c7=>?_) (fun c7=>?_)
    ·refine z7 Z Z c7<|z7 Z Z c7<|z7 Z Z c7<|z7 Z Z c7<|zb Z Z<|zb Z Z<|zb Z Z<|zb Z Z<|zb Z Z<|z7 Z Z c7<|ap Z c7 Z<|z6 ?_
     exact ⟨_,nK,aG,aC,by simp_all[zO]⟩
    ·refine z8 Z Z c7<|aa Z<|z8 Z Z c7<|aa Z<|z8 Z Z c7<|aH Z Z<|z8 Z Z c7<|ai Z<|zm (s:=29) Z (fun c8=>?_) (fun c8=>?_)
     ·refine z8 Z Z c8<|bw Z<|z8 Z Z c8<|aa Z<|z8 Z Z c8<|za (q0 (j:=x) Za Z5 Z Z Z ⟨_,.head⟩ (by first|rfl|(simp[bf,bd];done)|(simp[bf,bd];omega)) hx2)<|z8 Z Z c8<|za (Gv.loadB (j:=x) Zm Z ⟨_,.head⟩ hgx)<|z8 Z Z c8<|aF Z<|z8 Z Z c7<|ap Z c8 Z<|aq Z c7 Z<|z6 ?_
      exact ⟨_,nK,aG,aC,by simp_all[zO]⟩
     ·refine z7 Z Z c8<|z7 Z Z c8<|z7 Z Z c8<|z7 Z Z c8<|z7 Z Z c8<|z8 Z Z c7<|aq Z c8 Z<|aq Z c7 Z<|z6 ?_
      exact ⟨_,nK,aG,aC,by simp_all[zO]⟩
   ·rintro u hu
    subst hu
    refine zt Z (fun co=>?_) (fun co=>?_)
    ·have hno:¬zO a out shut x:=by simpa using co
     refine y9<|aM<|aA Z Z<|aa Z<|z6 ?_
     exact ⟨(x+1,out,ag),pt,di,aC,⟨hx2,hR,fun h z hz hok=>by rcases Nat.lt_succ_iff_lt_or_eq.1 hz with h1|h1;exact hcl h z h1 hok;exact absurd (h1▸hok) hno⟩,by dsimp only;omega⟩
    ·have hok:zO a out shut x:=by simpa using co
     refine zd<|ah<|aa Z<|aa Z<|z6<|zh<|ya (γ:=Nat × List Bool × Bool) [1,2,3,7,8,10,18,19,37] (fun g=>[(38,.int .i64 g.1),(9,.bool g.2.2)]) (fun g=>[(i16,.grow 1 4 (cB g.2.1))]) (fun g=>g.1≤n∧LL (ao f) a shut n o0 g.2.1 g.2.2∧zO a g.2.1 shut x∧(g.2.2=false→Df (ao f) a shut g.2.1 x∧LK (ao f) a shut g.2.1 x g.1)) (fun g=>n - g.1) (0,out,ag) di aC (⟨qt _,hR,hok,fun h=>⟨hcl h,fun _ y hy=>by omega⟩⟩) ?_
     rintro ⟨y,out,ag⟩ ⟨hy,hR,hok,hcl⟩
     try dsimp only at *
     have hol:=hR.len
     refine ah<|aw Z Z<|z6<|zc<|zp Z (fun cy=>?_) (fun cy=>?_)
     ·have hy2:y<n:=by omega
      have hgy:out[y]?=some (gb out (y:Int)):=ko (by omega)
      have hstep:(ag=false→(y:Int)∈ao f x→(y:Int)≠shut→gb out y=true)→(ag=false→Df (ao f) a shut out x∧LK (ao f) a shut out x (y+1)):=fun h1 h2=>⟨(hcl h2).1,fun ho z hz he hs=>by
       rcases Nat.lt_succ_iff_lt_or_eq.1 hz with h3|h3
       ·exact (hcl h2).2 ho z h3 he hs
       ·subst h3;exact h1 h2 he hs⟩
      refine zd<|zc<|zh<|ah<|aa Z<|ay Z<|z6<|ah<|aa Z<|aa Z<|aH Z Z<|ai Z<|zm (s:=44) Z (fun c1=>?_) (fun c1=>?_)
      ·have d1:(y:Int)≠shut:=by simpa using c1
       refine z8 Z Z c1<|bw Z<|z8 Z Z c1<|aa Z<|z8 Z Z c1<|za (q0 (j:=y) Za Z5 Z Z Z ⟨_,.head⟩ (by first|rfl|(simp[bf,bd];done)|(simp[bf,bd];omega)) hy2)<|z8 Z Z c1<|za (Gv.loadB (j:=y) Zm Z ⟨_,.head⟩ hgy)<|z8 Z Z c1<|aF Z<|ap Z c1 Z<|ai Z<|zm (s:=51) Z (fun c2=>?_) (fun c2=>?_)
       ·have d2:gb out (y:Int)=false:=by simpa using c2
        refine z8 Z Z c2<|ab jm jh Z Z<|z8 Z Z c2<|aa Z<|z8 Z Z c2<|aa Z<|z8 Z Z c2<|ze (mJ f (by omega) (x:Int) (y:Int) (by omega) (by omega)) Z<|ap Z c2 Z<|z6<|zt Z (fun c3=>?_) (fun c3=>?_)
        ·have d3:(y:Int)∈ao f x:=by simpa using c3
         refine ah<|bw Z<|aa Z<|za (q0 (j:=y) Za Z5 Z Z Z ⟨_,.head⟩ (by first|rfl|(simp[bf,bd];done)|(simp[bf,bd];omega)) hy2)<|az.storeB (j:=y) Z5 Z Z .head (by first|omega|(simp;omega))<|z6<|aM<|ac Z<|z6<|aM<|aA Z Z<|aa Z<|z6 ?_
         exact ⟨(y+1,out.set y true,true),nK,di,aC,⟨hy2,hR.hit hok d3 d1 hy2 d2,IP hok (by omega) (by omega),fun h=>by cases h⟩,by dsimp only;omega⟩
        ·have d3:¬(y:Int)∈ao f x:=by simpa using c3
         refine zd<|aM<|aA Z Z<|aa Z<|z6 ?_
         exact ⟨(y+1,out,ag),nK,di,aC,⟨hy2,hR,hok,hstep fun _ h _=>absurd h d3⟩,by dsimp only;omega⟩
       ·have d2:gb out (y:Int)=true:=by simpa using c2
        refine z7 Z Z c2<|z7 Z Z c2<|z7 Z Z c2<|z7 Z Z c2<|aq Z c2 Z<|z6<|yj Z Z<|zd<|aM<|aA Z Z<|aa Z<|z6 ?_
        exact ⟨(y+1,out,ag),nK,di,aC,⟨hy2,hR,hok,hstep fun _ _ _=>d2⟩,by dsimp only;omega⟩
      ·have d1:(y:Int)=shut:=by simpa using c1
       refine z7 Z Z c1<|z7 Z Z c1<|z7 Z Z c1<|z7 Z Z c1<|z7 Z Z c1<|aq Z c1 Z<|ai Z<|z7 Z Z Z<|z7 Z Z Z<|z7 Z Z Z<|z7 Z Z Z<|aq Z Z Z<|z6<|yj Z Z<|zd<|aM<|aA Z Z<|aa Z<|z6 ?_
       exact ⟨(y+1,out,ag),nK,di,aC,⟨hy2,hR,hok,hstep fun _ _ h=>absurd d1 h⟩,by dsimp only;omega⟩
     ·have hyn:y=n:=by omega
      refine y9<|aM<|aA Z Z<|aa Z<|z6 ?_
      exact ⟨(x+1,out,ag),pt,di,aC,⟨hx2,hR,fun h z hz ho=>by rcases Nat.lt_succ_iff_lt_or_eq.1 hz with h1|h1;exact (hcl h).1 z h1 ho;subst h1;exact fun y2 he hs=>(by by_cases hlt:y2<n;exact (hcl h).2 ho y2 (by omega) he hs;exact absurd (hG.rng z (by omega) (by omega) _ he).2 (by omega))⟩,by dsimp only;omega⟩
  ·have hxn:x=n:=by omega
   subst hxn
   refine y9 ?_
   exact ⟨(out,ag),iT,aG,aC,⟨hR.toFrS,hcl⟩,by dsimp only;have h1:=hR.less;have h2:=hR.more;cases ag;simp;omega;have:=h2 rfl;simp;omega⟩
 ·have ca:again=false:=by simpa using ca
  rw[hS0.eq hG ⟨h0,ha⟩ (hfin ca)]
  refine y9<|ah<|bw Z<|bM Z<|z6<|zg<|zk (x:=.own _ _) Z ?_
  exact ⟨i16,rfl,rfl⟩
theorem gV (f:ad) (hE:bF f) (hn:f.blocks.length≤1000) (shut:Int):aJ prog E 46 [.agg (bL f),.int .i64 shut] (.fro 1 ((em (ao f) f.blocks.length shut).map uN)):=by
 have hpos:=hE.grph.npos
 refine zo func46 Z (by decide) Z<|ah<|yb (cs:=_) Z Z Z<|bV Z<|z6<|ah<|ab jm jh Z Z<|aa Z<|zu Z (zn (.rest _)) (Ge f hE hn 0 shut (Int.le_refl _) (by omega)) ?_
 rintro r8 O8 ⟨i8,rfl,rfl⟩
 refine bM Z<|z6<|ah<|bw Z<|aa Z<|aH Z Z<|za (q0 (j:=0) Za Z5 Z Z Z ⟨_,.head⟩ (by rw[bd,lJ]) hpos)<|az.storeB (j:=0) Z5 Z Z .head (by rw[lJ];exact hpos)<|z6<|ah<|bw Z<|bM Z<|z6 ?_
 rw[show (!decide (shut=0))=decide (shut≠0) by simp,Dh]
 refine yg (aK.knowB (t:=4) Z .head (mu _ _ _))<|zg<|zk (x:=.fro _ _) Z ?_
 rfl
end
end Go.Proofs.YtbanfokidalbaaaGreatDoor
