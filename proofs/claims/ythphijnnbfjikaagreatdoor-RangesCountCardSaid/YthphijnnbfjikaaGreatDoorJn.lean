/- The document's table of blocks, its checks of sums; its rules. Of programs that are little. -/
import Derived.Test.YthphijnnbfjikaaGreatDoorJm
import Derived.Test.YthphijnnbfjikaaGreatDoorJc
import Derived.Test.YthphijnnbfjikaaGreatDoorJd
import Derived.Test.YthphijnnbfjikaaGreatDoorJf
import Derived.Test.YthphijnnbfjikaaGreatDoorJi
set_option linter.unusedVariables false
set_option linter.unusedSimpArgs false
set_option linter.unusedSectionVars false
namespace Go.Proofs.YthphijnnbfjikaaGreatDoor
section
open Go.Proofs.Tryz
open Go.Proofs Go.Lib Go.Shelf Go.RowKit
theorem Eo:eD prog 74 #[(0,1),(1,1)] [.int .i64 0,.int .i64 0]:=⟨_,_,Ze,zeroValue74,fun w=>by kernel_rfl,rfl⟩
theorem jF:dt prog 57 74 1 2 [.int .i64 0,.int .i64 0]:=⟨_,Z6,Zl,zeroValue74,by decide,by decide,by kernel_rfl⟩
variable {E:World}
set_option maxRecDepth 20000
theorem cf.dstPhi {f:ac} (h:cf f) {b:aW} (hb:b∈f.blocks) {p:dY} (hp:p∈b.phis):0≤p.dst∧p.dst<f.vars.length:=by
 have:=((h.2.2.2.2.2 b hb).1 p hp).1
 simpa [cA] using this
theorem cf.dstInst {f:ac} (h:cf f) {b:aW} (hb:b∈f.blocks) {x:bg} (hx:x∈b.insts) (h0:0≤x.dst):x.dst<f.vars.length:=by
 rcases (gl ((h.2.2.2.2.2 b hb).2.1 x hx)).dst with ⟨_,d⟩|⟨_,_,d⟩
 ·omega
 ·have:0≤x.dst∧x.dst<f.vars.length:=by simpa [cA] using d
  exact this.2
theorem small.evs {f:ac} (hf:small f) {k:Nat} (hk:k≤f.blocks.length):(fQ f k).length≤2000000:=by
 have h1:=sw (m:=2000) (fun b hb=>by have:=hf.2.2.2.2 b hb;have h2:=this.2.1;have h3:=this.2.2.1;omega) k hk
 have:=hf.2.2.1
 omega
set_option maxHeartbeats 4000000 in
theorem mo (f:ac) (hf:small f) (hS:cf f):aU prog E 40 [.agg (b9 f)] []
  fun x O=>∃b:Nat,x=dg b f.vars.length∧O=[(0,cu eP 57 74 b (nE f))]:=by
 have hv:=hf.1
 have hn:=hf.2.2.1
 refine zk func40 Z (by decide) Z<|ae<|zy (cs:=_) Z Z Z<|z7 (mS Z)<|z6<|ae<|aj jt Z Y4 Z Z<|bd Yb Z<|au Zd Z<|zu (m:=f.vars.length) Zh type57 Z Z Z Z Z (by simp) (by simp) (by show (24:Int)*_≤_;omega) (by omega) eP 74<|fun b13=>z7 (y7 (v:=dg _ _) Z)<|z6<|ze<|ae<|aj jt Z Zj Z Z<|bd Zn Z<|au jw Z<|aa Z<|z6<|zj<|ya (γ:=Nat) [3,15,16] (fun k=>[(17,.int .i64 k)]) (fun k=>[(0,cu eP 57 74 b13 (bB f.vars.length (fQ f k)))]) (fun k=>k≤f.blocks.length) (fun k=>f.blocks.length - k) 0 aT ⟨_,(.refl _),by rw[nD];rfl⟩ (qm _) ?_
 rintro k hk
 refine ae<|ax Z Z<|z6<|ze<|zp Z (fun ck=>?_) (fun ck=>?_)
 ·have hk2:k<f.blocks.length:=by simp at ck;omega
  obtain ⟨b,hbk⟩:∃b,f.blocks[k]=b:=⟨_,rfl⟩
  have hget:f.blocks[k]?=some b:=by rw[qj hk2,hbk]
  have hmem:b∈f.blocks:=hbk▸qn hk2
  obtain ⟨hb0,hb1,hb2,hb3,hb4⟩:=hf.2.2.2.2 b hmem
  have hevl:=hf.evs hk
  refine zi<|ze<|zj<|ae<|aa Z<|z7 (db k jw Z2 Z Z Z hget)<|ab Y6 Z2 Z Z<|zo (cs:=[.str ⟨#[]⟩,.raw (.slice none 0 0),.raw (.slice none 0 0),.int .i64 0,.int .i64 0,.int .i64 0,.int .i64 0]) Zf Z Z<|fun i5=>aq Z<|zf Z2 Z Z Z Z Z Z .head Z<|zc (yk (t:=5) Z .head)<|z6<|ze<|ae<|aj jy Z Yc Z Z<|bd isAgg49 Z<|au Zc Z<|aa Z<|z6<|zj<|ya (γ:=Nat) [3,4,5,15,16,17,23,24] (fun j=>[(25,.int .i64 j)]) (fun j=>[(0,cu eP 57 74 b13 (bB f.vars.length (fQ f k++ga k (b.phis.take j))))]) (fun j=>j≤b.phis.length) (fun j=>b.phis.length - j) 0 aT ⟨_,(.refl _),by rw[show ga k (b.phis.take 0)=[] from rfl,List.append_nil]⟩ (qm _) ?_
  rintro j hj
  refine ae<|ax Z Z<|z6<|ze<|zp Z (fun cj=>?_) (fun cj=>?_)
  ·have hj2:j<b.phis.length:=by simp at cj;omega
   obtain ⟨p,hp⟩:∃p,b.phis[j]=p:=⟨_,rfl⟩
   obtain ⟨hd0,hdn⟩:=hS.dstPhi hmem (hp▸qn hj2)
   obtain ⟨rows,hrows⟩:∃rows,bB f.vars.length (fQ f k++ga k (b.phis.take j))=rows:=⟨_,rfl⟩
   have hdl:p.dst.toNat<(bB f.vars.length (fQ f k++ga k (b.phis.take j))).length:=by rw[bJ];omega
   have hrl:=gN hdl
   have hsucc:=iT (x:=((k:Int),(-1:Int))) hd0 hdl
   have hrn:=bJ f.vars.length (fQ f k++ga k (b.phis.take j))
   have hel:(fQ f k++ga k (b.phis.take j)).length≤2001000:=by rw[qp,ga,qq,List.length_take];omega
   rw[ql,show ga k (b.phis.take j)++[(p.dst,((k:Int),(-1:Int)))]=ga k (b.phis.take (j+1)) by rw[yA k hj2,hp]] at hsucc
   simp only[hrows] at hdl hrl hsucc hrn
   rw[hrows]
   refine zi<|ze<|zj<|ae<|z7 (db j Zc Zg Z Z Z (by rw[qj hj2,hp])) ?_
   refine ab isAgg63 Zg Z Z<|zo (cs:=[.int .i64 0,.raw (.slice none 0 0),.raw (.slice none 0 0)]) zeroValue63 Z Z<|fun i7=>zf Zg Z Z Z Z Z Z .head Z<|zc (yk (t:=7) Z .head)<|z6<|ym (γ:=Unit) [3,4,5,15,16,17,23,24,25] (fun u=>[]) (fun u=>[(0,cu eP 57 74 b13 (rows.set p.dst.toNat (rows[p.dst.toNat]++[((k:Int),-1)])))]) (fun u=>True) ?_ (fun _ _ h=>h) ?_
   ·refine zw (fun j=>Nat.beq j 13) (by kernel_rfl) Z (zn (.rest _))<|ao 0 Z (yb (v:=dg _ _) Z)<|ao 1 Z (eh Za Z jm Z Z)<|ao 2 Z (gy jq Z)<|ao 3 Z (yb (v:=dg _ _) Z)<|ao 4 Z (eh Za Z jm Z Z)<|ao 5 Z (gy jq Z)<|ao 6 Z (qf (j:=p.dst.toNat) Zh Zu Z Z (by omega) (by omega))<|ao 8 Z (fC Z)<|ao 9 Z (zt (cps:=[(0,[_]),(1,[_])]) (rs:=[_,_]) Eo Z Z Z)<|yg (i:=7) (j:=10) Z Z (by kernel_rfl) ?_ ?_
    ·refine q3 (j:=p.dst.toNat) (r:=rows[p.dst.toNat]) Ya Z (qj hdl) (fun _=>.head)<|fun i36=>z6<|aL 10 Z<|zr (rows:=[[_,_]]) jF Z Z Z Z Z<|z6<|aL 11 Z<|yp (k:=2) Z6 type74 Z Z Z Z Z (fun _=>.head) (by rw[eP.av_len];rfl) (by decide) Z (by show (_+1)*16≤_;omega) (by show _+1≤_;omega)<|fun i40=>z6<|ao 12 Z (qf (j:=p.dst.toNat) Zh Zu Z Z (by omega) (by omega))<|yu<|yz (i:=13) Z (by kernel_rfl) (by kernel_rfl)<|qg (j:=p.dst.toNat) (r:=rows[p.dst.toNat]++[((k:Int),-1)]) Zu Z Z (by omega) .head .head Z (eP.av_push rows[p.dst.toNat] ((k:Int),(-1:Int))) (by simp)<|z6<|yx (by kernel_rfl) ?_
     exact ⟨(),⟨rfl,rfl,rfl,rfl,rfl,rfl,rfl,rfl,rfl,trivial⟩,trivial,aJ,trivial⟩
    ·refine zr (rows:=[[_,_]]) jF Z Z Z Z Z<|z6<|aL 7 Z<|q3 (j:=p.dst.toNat) (r:=rows[p.dst.toNat]) Ya Z (qj hdl) (fun _=>.head)<|fun i36=>z6<|aL 11 Z<|yp (k:=2) Z6 type74 Z Z Z Z Z (fun _=>.head) (by rw[eP.av_len];rfl) (by decide) Z (by show (_+1)*16≤_;omega) (by show _+1≤_;omega)<|fun i40=>z6<|ao 12 Z (qf (j:=p.dst.toNat) Zh Zu Z Z (by omega) (by omega))<|yu<|yz (i:=13) Z (by kernel_rfl) (by kernel_rfl)<|qg (j:=p.dst.toNat) (r:=rows[p.dst.toNat]++[((k:Int),-1)]) Zu Z Z (by omega) .head .head Z (eP.av_push rows[p.dst.toNat] ((k:Int),(-1:Int))) (by simp)<|z6<|yx (by kernel_rfl) ?_
     exact ⟨(),⟨rfl,rfl,rfl,rfl,rfl,rfl,rfl,rfl,rfl,trivial⟩,trivial,aJ,trivial⟩
   ·rintro _ _
    refine bD<|aQ Z Z<|aa Z<|z6 ?_
    exact ⟨j+1,yE,aT,⟨_,(.refl _),by rw[hsucc]⟩,hj2,by omega⟩
  ·have hjn:j=b.phis.length:=by simp at cj;omega
   subst hjn
   rw[qo]
   refine y8<|ae<|aj jy Z Y2 Z Z<|bd Y9 Z<|au Z5 Z<|aa Z<|z6<|zj<|ya (γ:=Nat) [3,4,15,16,17,44,45] (fun j=>[(46,.int .i64 j)]) (fun j=>[(0,cu eP 57 74 b13 (bB f.vars.length (fQ f k++ga k b.phis++kV k (b.insts.take j))))]) (fun j=>j≤b.insts.length) (fun j=>b.insts.length - j) 0 aT ⟨_,(.refl _),by rw[show kV k (b.insts.take 0)=[] from rfl,List.append_nil]⟩ (qm _) ?_
   rintro j hj
   refine ae<|ax Z Z<|z6<|ze<|zp Z (fun cj=>?_) (fun cj=>?_)
   ·have hj2:j<b.insts.length:=by simp at cj;omega
    obtain ⟨p,hp⟩:∃p,b.insts[j]=p:=⟨_,rfl⟩
    have hev:=yB k hj2
    rw[hp] at hev
    refine zi<|ze<|zj<|ae<|aa Z<|z7 (db j Z5 Z8 Z Z Z (by rw[qj hj2,hp])) ?_
    refine ab Y8 Z8 Z Z<|zo (cs:=[.int .i64 0,.int .i64 0,.raw (.slice none 0 0),.int .i64 0]) Zx Z Z<|fun i9=>aq Z<|zf Z8 Z Z Z Z Z Z .head Z<|zc (yk (t:=9) Z .head)<|z6<|ae<|aj jo Z jm Z Z<|aw jq Z<|z7 (qa Z Z)<|z6<|zz Z (fun cd=>?_) (fun cd=>?_)
    ·have hd0:0≤p.dst:=by simpa using cd
     have hdn:=hS.dstInst hmem (hp▸qn hj2) hd0
     rw[if_pos hd0] at hev
     obtain ⟨rows,hrows⟩:∃rows,bB f.vars.length (fQ f k++ga k b.phis++kV k (b.insts.take j))=rows:=⟨_,rfl⟩
     have hdl:p.dst.toNat<(bB f.vars.length (fQ f k++ga k b.phis++kV k (b.insts.take j))).length:=by rw[bJ];omega
     have hrl:=gN hdl
     have hsucc:=iT (x:=((k:Int),(j:Int))) hd0 hdl
     have hrn:=bJ f.vars.length (fQ f k++ga k b.phis++kV k (b.insts.take j))
     have hel:(fQ f k++ga k b.phis++kV k (b.insts.take j)).length≤2002000:=by
      have:=sv k (b.insts.take j)
      rw[List.length_take] at this
      rw[qp,qp,ga,qq];omega
     rw[ql (fQ f k++ga k b.phis) (kV k (b.insts.take j)) [(p.dst,((k:Int),(j:Int)))],←hev] at hsucc
     simp only[hrows] at hdl hrl hsucc hrn
     rw[hrows]
     refine ym (γ:=Unit) [3,4,15,16,17,44,45,46] (fun u=>[]) (fun u=>[(0,cu eP 57 74 b13 (rows.set p.dst.toNat (rows[p.dst.toNat]++[((k:Int),(j:Int))])))]) (fun u=>True) ?_ (fun _ _ h=>h) ?_
     ·refine zw (fun j=>Nat.beq j 14) (by kernel_rfl) Z (zn (.rest _))<|ao 0 Z (yb (v:=dg _ _) Z)<|ao 1 Z (eh jo Z jm Z Z)<|ao 2 Z (gy jq Z)<|ao 3 Z (yb (v:=dg _ _) Z)<|ao 4 Z (eh jo Z jm Z Z)<|ao 5 Z (gy jq Z)<|ao 6 Z (qf (j:=p.dst.toNat) Zh Zu Z Z (by omega) (by omega))<|ao 8 Z (fC Z)<|ao 9 Z (fC Z)<|ao 10 Z (zt (cps:=[(0,[_]),(1,[_])]) (rs:=[_,_]) Eo Z Z Z)<|yg (i:=7) (j:=11) Z Z (by kernel_rfl) ?_ ?_
      ·refine q3 (j:=p.dst.toNat) (r:=rows[p.dst.toNat]) Ya Z (qj hdl) (fun _=>.head)<|fun i61=>z6<|aL 11 Z<|zr (rows:=[[_,_]]) jF Z Z Z Z Z<|z6<|aL 12 Z<|yp (k:=2) Z6 type74 Z Z Z Z Z (fun _=>.head) (by rw[eP.av_len];rfl) (by decide) Z (by show (_+1)*16≤_;omega) (by show _+1≤_;omega)<|fun i66=>z6<|ao 13 Z (qf (j:=p.dst.toNat) Zh Zu Z Z (by omega) (by omega))<|yu<|yz (i:=14) Z (by kernel_rfl) (by kernel_rfl)<|qg (j:=p.dst.toNat) (r:=rows[p.dst.toNat]++[((k:Int),(j:Int))]) Zu Z Z (by omega) .head .head Z (eP.av_push rows[p.dst.toNat] ((k:Int),(j:Int))) (by simp)<|z6<|yx (by kernel_rfl) ?_
       exact ⟨(),yE,trivial,aJ,trivial⟩
      ·refine zr (rows:=[[_,_]]) jF Z Z Z Z Z<|z6<|aL 7 Z<|q3 (j:=p.dst.toNat) (r:=rows[p.dst.toNat]) Ya Z (qj hdl) (fun _=>.head)<|fun i61=>z6<|aL 12 Z<|yp (k:=2) Z6 type74 Z Z Z Z Z (fun _=>.head) (by rw[eP.av_len];rfl) (by decide) Z (by show (_+1)*16≤_;omega) (by show _+1≤_;omega)<|fun i66=>z6<|ao 13 Z (qf (j:=p.dst.toNat) Zh Zu Z Z (by omega) (by omega))<|yu<|yz (i:=14) Z (by kernel_rfl) (by kernel_rfl)<|qg (j:=p.dst.toNat) (r:=rows[p.dst.toNat]++[((k:Int),(j:Int))]) Zu Z Z (by omega) .head .head Z (eP.av_push rows[p.dst.toNat] ((k:Int),(j:Int))) (by simp)<|z6<|yx (by kernel_rfl) ?_
       exact ⟨(),yE,trivial,aJ,trivial⟩
     ·rintro _ _
      refine bD<|aQ Z Z<|aa Z<|z6 ?_
      exact ⟨j+1,Aw,aT,⟨_,(.refl _),by rw[hsucc]⟩,hj2,by omega⟩
    ·have hd0:¬0≤p.dst:=by simpa using cd
     rw[if_neg hd0,List.append_nil] at hev
     refine zi<|bD<|aQ Z Z<|aa Z<|z6 ?_
     exact ⟨j+1,Aw,aT,⟨_,(.refl _),by rw[hev]⟩,hj2,by omega⟩
   ·have hjn:j=b.insts.length:=by simp at cj;omega
    subst hjn
    rw[qo]
    refine y8<|bD<|aQ Z Z<|aa Z<|z6 ?_
    exact ⟨k+1,bX,aT,⟨_,(.refl _),by rw[pB hk2,hbk,uF,ql]⟩,hk2,by omega⟩
 ·have hkn:k=f.blocks.length:=by simp at ck;omega
  subst hkn
  refine y8<|ae<|z7 (yb (v:=dg _ _) Z)<|z7 (y7 (v:=dg _ _) Z)<|z6<|zh<|zm (x:=dg _ _) Z ?_
  exact ⟨b13,rfl,rfl⟩
end
section
open Go.Proofs.Tryz
open Go.Proofs Go.Lib Go.Shelf Go.RowKit
variable {E:World}
set_option maxRecDepth 20000
theorem fk {f:ac} (h:bf f=true):cf f:=by
 unfold bf at h
 rw[qu,kE] at h
 exact of_decide_eq_true h.1
theorem Im (l:List lX):((eP.av l++[AV.int .i64 (-1),AV.int .i64 0]).drop 0).take 2=[AV.int .i64 (l.head?.getD (-1,0)).1,AV.int .i64 (l.head?.getD (-1,0)).2]:=by cases l<;>rfl
theorem rU {f:ac} (hf:small f) {v:Nat} (h:v<f.vars.length):(bn f v).length≤2000000:=by
 have h1:=eg (fQ f f.blocks.length) h
 have h2:v<(bB f.vars.length (fQ f f.blocks.length)).length:=by rw[bJ];exact h
 have h3:=gN h2
 have h4:=hf.evs (Nat.le_refl _)
 rw[qj h2,vT] at h1
 rw[Option.some.inj h1] at h3
 omega
theorem jG (f:ac) (hf:small f) (hL:aE E) (ht:bf f=true):aF prog E 17 [.agg (b9 f)] (.fro 2 ((bP f).map eP.row)):=by
 have hv:=hf.1
 refine zk func17 Z (by decide) Z<|ae<|zy (cs:=_) Z Z Z<|z7 (mS Z)<|z6<|ze<|ae<|ab jx js Z Z<|zg (kF f hf hL) Z<|z7 (yw Z Z)<|z6<|yn Z (by rw[ht];rfl)<|zi<|ae<|z7 (mS Z)<|z6<|ze<|ae<|ab jx js Z Z<|zq Z (zn (.rest _)) (mo f hf (fk ht)) ?_
 rintro r10 O10 ⟨b10,rfl,rfl⟩
 refine z7 (Gv.lenN Zh Z)<|aa Z<|z6<|iP (t:=3) (k:=2) (T:=74) Z<|fun i3=>yh (aN.nestTail .t1)<|zj<|ya (γ:=Nat × Nat) [10,11] (fun g=>[(12,.int .i64 g.1),(3,.own g.2 g.1)]) (fun g=>[(g.2,.grow 2 74 (((bP f).take g.1).map eP.row).flatten),(0,wr eP 57 74 b10 (nE f) g.1)]) (fun g=>g.1≤f.vars.length) (fun g=>f.vars.length - g.1) (0,i3) cU aJ (qm _) ?_
 rintro ⟨k,i3⟩ hk
 try dsimp only at *
 refine ae<|ax Z Z<|z6<|ze<|zp Z (fun ck=>?_) (fun ck=>?_)
 ·have hk2:k<f.vars.length:=by simp at ck;omega
  have hml:=rU hf hk2
  have hmt:(bP f)[k]?=some (aZ f k):=gg hk2
  have hkm:k<(bP f).length:=by rw[iU];exact hk2
  have hmk:(bP f)[k]=aZ f k:=by rw[qj hkm] at hmt;exact Option.some.inj hmt
  refine zi<|ze<|zj<|ae<|z7 (qf (j:=k) Zh Zu Z Z Z (by omega))<|ai.nestShift Ya Z (nF hk2) .t1<|fun i15=>z7 (sB Z)<|z6<|ae<|z7 (mR Z)<|z7 (zt (cps:=[(0,[_]),(1,[_])]) (rs:=[_,_]) Eo Z Z Z)<|zr (rows:=[[_,_]]) jF Z Z Z Z Z<|yp (k:=2) Z6 type74 Z Z Z Z Z (fun _=>.head) (by rw[eP.av_len];rfl) (by decide) Z (by show (_+1)*16≤_;omega) (by show _+1≤_;omega)<|fun i19=>z7 (sB Z)<|z6<|bD<|z7 (mR Z)<|z7 (mR Z)<|z7 (Gv.idxO (j:=0) Z6 Zl Z Z Z ⟨_,.head⟩ (by simp) (by show 0<_+1;omega))<|z7 (Gv.loadAG (l:=[_,_]) isAgg74 Zl Z ⟨_,.head⟩ (by simp) (by simp) (Im _))<|zr (rows:=[[_,_]]) jF Z Z Z Z Z<|yp (k:=2) Z6 type74 Z Z Z Z Z (fun _=>.t1) (by rw[kS (k:=2) (fun _=>rfl),List.length_take,Nat.min_eq_left (by omega)]) (by decide) Z (by show (_+1)*16≤_;omega) (by show _+1≤_;omega)<|fun i25=>z7 (sB Z)<|z6<|yh (aN.drop .head)<|bD<|aQ Z Z<|aa Z<|z6 ?_
  exact ⟨(k+1,i25),cU,cU,⟨_,(.refl _),by rw[←jN (qk hkm),hmk];rfl⟩,hk2,by dsimp only;omega⟩
 ·have hkn:k=f.vars.length:=by simp at ck;omega
  subst hkn
  rw[show (bP f).take f.vars.length=bP f by rw[←iU f,qo]]
  refine y8<|ae<|z7 (mR Z)<|z7 (sB Z)<|z6<|zh ?_
  repeat (first|refine bc ?_|refine aO ?_)
  refine aN.fin (aN.know (t:=2) (rows:=(bP f).map eP.row) Z .head (by first|(intro r hr;obtain ⟨x,_,rfl⟩:=List.mem_map.1 hr;rfl)|simp[eE,uy,eY,d8,uz]) (by decide) (by rw[qq,iU]))<|zm (x:=.fro _ _) Z ?_
  rfl
theorem Ai (f:ac) (hf:small f) (hS:cf f):aF prog E 55 [.agg (b9 f)] (.bool (lZ f)):=by
 have hv:=hf.1
 refine zk func55 Z (by decide) Z<|ae<|zy (cs:=_) Z Z Z<|ad Z<|z6<|ze<|ae<|ab jx js Z Z<|zq Z (zn (.rest _)) (mo f hf hS) ?_
 rintro r6 O6 ⟨b6,rfl,rfl⟩
 refine z7 (Gv.lenN Zh Z)<|aa Z<|z6<|yh (aN.nestKnow (s:=6) Z .head (uG f))<|zj<|ya (γ:=Nat) [1,6,7] (fun k=>[(8,.int .i64 k)]) (fun k=>[]) (fun k=>k≤f.vars.length∧(List.range k).all (nG f)=true) (fun k=>f.vars.length - k) 0 aT aJ (⟨qm _,Z⟩) ?_
 rintro k ⟨hk,hall⟩
 refine ae<|ax Z Z<|z6<|ze<|zp Z (fun ck=>?_) (fun ck=>?_)
 ·have hk2:k<f.vars.length:=by simp at ck;omega
  refine zi<|ze<|zj<|ae<|aa Z<|z7 (db k Zh Zu Z Z Z (nF hk2))<|bd Ya Z<|aq Z<|z7 (um Z)<|z6<|ae<|bh Z<|au Z6 Z<|z7 (Gv.gtr Z Z)<|ay Z<|zx (s:=16) Z (fun c1=>?_) (fun c1=>?_)
  ·have d1:1<(bn f k).length:=by have h0:(1:Int)<((bn f k).length:Int):=(by simpa using c1);omega
   refine z8 Z Z c1<|z8 Z Z c1<|z8 Z Z c1<|z8 Z Z c1<|ai.guardUd Z Z<|ai.guardUd Z Z<|ai.guardUd Z Z<|ai.guardUd Z Z<|ai.guardUd Z Z<|z8 Z Z c1<|aM Z c1 Z<|z6<|yq Z Z<|ae<|ad Z<|z6<|zh<|zm (x:=.bool _) Z ?_
   rw[show lZ f=false from fh hk2 (by unfold nG;simp[d1])]
  ·have d1:¬1<(bn f k).length:=by have h0:¬(1:Int)<((bn f k).length:Int):=(by simpa using c1);omega
   refine za Z Z c1<|bh Z<|za Z Z c1<|au Z6 Z<|za Z Z c1<|z7 (Gv.gtr Z Z)<|za Z Z c1<|ay Z<|zx (s:=20) Z (fun c2=>?_) (fun c2=>?_)
   ·have d2:bn f k≠[]:=by have h0:0<(bn f k).length:=(by simpa using c2);exact List.ne_nil_of_length_pos h0
    refine za Z Z c2<|aa Z<|za Z Z c2<|aj jt Z jr Z Z<|za Z Z c2<|bd jv Z<|za Z Z c2<|au jh Z<|za Z Z c2<|ax Z Z<|za Z Z c1<|aM Z c2 Z<|aD Z c1 Z<|z6<|zz Z (fun c3=>?_) (fun c3=>?_)
    ·have d3:k<f.params.length:=by simpa using c3
     refine ae<|ad Z<|z6<|zh<|zm (x:=.bool _) Z ?_
     rw[show lZ f=false from fh hk2 (by unfold nG;simp[d2,d3,List.length_pos_iff])]
    ·have d3:¬k<f.params.length:=by simpa using c3
     refine zi<|bD<|aQ Z Z<|aa Z<|z6 ?_
     exact ⟨k+1,bX,aT,aJ,⟨hk2,eF hall (by unfold nG;simp[d1,d3])⟩,by omega⟩
   ·have d2:bn f k=[]:=by simpa using c2
    refine z8 Z Z c2<|z8 Z Z c2<|z8 Z Z c2<|z8 Z Z c2<|z8 Z Z c2<|za Z Z c1<|aD Z c2 Z<|aD Z c1 Z<|z6<|yn Z Z<|zi<|bD<|aQ Z Z<|aa Z<|z6 ?_
    exact ⟨k+1,bX,aT,aJ,⟨hk2,eF hall (by unfold nG;simp[d2])⟩,by omega⟩
 ·have hkn:k=f.vars.length:=by simp at ck;omega
  subst hkn
  refine y8<|ae<|ad Z<|z6<|zh<|zm (x:=.bool _) Z ?_
  rw[show lZ f=true from hall]
end
section
open Go.Proofs.Tryz
open Go.Proofs Go.Lib Go.Shelf Go.RowKit
variable {E:World}
set_option maxRecDepth 20000
theorem mL {p:Int→Bool} {fn:FuncId} {c:List AV} (xs:List Int) (hl:xs.length≤281474976710656) (hp:∀x∈xs,aF prog E fn ([.int .i64 x]++c) (.bool (p x))) :
  aF prog E 103 [.fro 1 (xs.map eE),.fn fn [] c] (.int .i64 (bF p xs 0)):=by
 refine zk func103 Z (by decide) Z<|ae<|aq Z<|z6<|ze<|ae<|bh Z<|au jh Z<|aa Z<|z6<|zj<|ya (γ:=Nat) [0,1,7] (fun k=>[(8,.int .i64 k)]) (fun k=>[]) (fun k=>k≤xs.length∧(xs.take k).all (fun x=>!p x)) (fun k=>xs.length - k) 0 aT aJ (⟨qm _,Z⟩) ?_
 rintro k ⟨hk,hall⟩
 refine ae<|ax Z Z<|z6<|ze<|zp Z (fun ck=>?_) (fun ck=>?_)
 ·have hk2:k<xs.length:=by simp at ck;omega
  refine zi<|ze<|zj<|ae<|aa Z<|aq Z<|z6<|ae<|z7 (yb (v:=.fn _ _ _) Z)<|bh Z<|aa Z<|z7 (db k jh jm Z Z Z (qj hk2))<|aw jq Z<|ai.callVP Z (hp _ (qn hk2)) Z<|z6<|zz Z (fun cp=>?_) (fun cp=>?_)
  ·refine ae<|aa Z<|aq Z<|z6<|zh<|zm (x:=.int _ _) Z ?_
   rw[bv p xs k hk hall,List.drop_eq_getElem_cons hk2,bF,if_pos cp]
  ·refine zi<|bD<|aQ Z Z<|aa Z<|z6 ?_
   exact ⟨k+1,bX,aT,aJ,⟨hk2,by rw[qk hk2,List.all_append,hall];simp[cp]⟩,by omega⟩
 ·have hkn:k=xs.length:=by simp at ck;omega
  refine y8<|ae<|aq Z<|z6<|zh<|zm (x:=.int _ _) Z ?_
  rw[bv p xs k hk hall,hkn,List.drop_length,bF]
theorem kH {p:Int→Bool} {fn:FuncId} {c:List AV} (xs:List Int) (hl:xs.length≤281474976710656) (hp:∀x∈xs,aF prog E fn ([.int .i64 x]++c) (.bool (p x))) :
  aF prog E 77 [.fro 1 (xs.map eE),.fn fn [] c] (.bool (xs.any p)):=by
 refine zk func77 Z (by decide) Z<|ae<|ad Z<|z6<|ae<|bh Z<|z7 (yb (v:=.fn _ _ _) Z)<|zg (mL xs hl hp) Z<|z7 (qa Z Z)<|ad Z<|z6<|zh<|zm (x:=.bool _) Z ?_
 rw[ej]
theorem hU (f:ac) (hE:ef f) (hn:f.blocks.length≤1000) (m:lX) (b a:Int) (x y:AV):aF prog E 29 [oN f x y,.agg [.int .i64 m.1,.int .i64 m.2],.int .i64 b,.int .i64 a] (.bool (dD f m b a)):=by
 refine zk func29 Z (by decide) Z<|ae<|zy (cs:=_) Z Z Z<|ad Z<|z6<|ze<|zj<|ae<|aj Ze Z jm Z Z<|aw jq Z<|ax Z Z<|ad Z<|z6<|zp Z (fun c0=>?_) (fun c0=>?_)
 ·refine ae<|ad Z<|z6<|zh<|zm (x:=.bool _) Z ?_
  rw[dD,if_pos c0]
 ·refine ae<|aj Ze Z jm Z Z<|aw jq Z<|aa Z<|ak Z Z<|ad Z<|z6<|zz Z (fun c1=>?_) (fun c1=>?_)
  ·have d1:m.1=b:=by simpa using c1
   refine ae<|aj Ze Z jm Z Z<|aw jq Z<|aa Z<|ax Z Z<|ad Z<|z6<|zh<|zm (x:=.bool _) Z ?_
   rw[dD,if_neg c0,if_pos d1]
  ·have d1:¬m.1=b:=by simpa using c1
   refine zi<|ae<|z7 (j8 Z)<|aj Ze Z jm Z Z<|aw jq Z<|aa Z<|zg (Af f hE hn m.1 b x y) Z<|ad Z<|z6<|zh<|zm (x:=.bool _) Z ?_
   rw[dD,if_neg c0,if_neg d1]
theorem kI {f:ac} {v:Int} (h:cA f v=true):0≤v∧(bP f)[v.toNat]?=some (aZ f v):=by
 have h1:0≤v∧v<f.vars.length:=by simpa [cA] using h
 refine ⟨h1.1,?_⟩
 have:=gg (f:=f) (v:=v.toNat) (by omega)
 rwa [show ((v.toNat:Nat):Int)=v by omega] at this
theorem rV (f:ac) (hE:ef f) (hn:f.blocks.length≤1000) (i k:Nat) (v:Int) (hv:cA f v=true) (x y:AV) :
  aF prog E 78 ([.int .i64 v]++[.pf [oN f x y],.pf [.fro 2 ((bP f).map eP.row)],.pf [.int .i64 i],.pf [.int .i64 k]]) (.bool (!dD f (aZ f v) i k)):=by
 obtain ⟨hv0,hvg⟩:=kI hv
 refine zk func78 Z (by decide) Z<|ae<|ad Z<|z6<|ze<|zw (fun j=>false) (by kernel_rfl) Z (zn (.rest _))<|ao 0 Z (q7 (c:=.pf _) isAgg56 Z)<|ao 1 Z (lA Ya Z)<|ao 2 Z (fC Z)<|ao 3 Z (db v.toNat Z6 Zl Z Z (by omega) hvg)<|ao 4 Z (yl isAgg74 Zl Z Z)<|ao 5 Z (gy jq Z)<|ao 6 Z (gy jq Z)<|aL 7 Z<|zg (hU f hE hn (aZ f v) i k x y) Z<|z6<|ao 8 Z (yo Z)<|ao 9 Z (sA Z)<|bO<|zh<|zm (x:=.bool _) Z ?_
 rfl
set_option maxHeartbeats 4000000 in
theorem tQ (f:ac) (hE:ef f) (hf:small f) (hS:cf f) (i:Nat) (hi:i<f.blocks.length) (x y:AV) :
  aF prog E 56 [.agg (b9 f),oN f x y,.fro 2 ((bP f).map eP.row),.int .i64 i] (.bool (GJ f i)):=by
 have hn:=hf.2.2.1
 obtain ⟨b,hbk⟩:∃b,f.blocks[i]=b:=⟨_,rfl⟩
 have hget:f.blocks[i]?=some b:=by rw[qj hi,hbk]
 have hmem:b∈f.blocks:=hbk▸qn hi
 obtain ⟨hb0,hb1,hb2,hb3,hb4⟩:=hf.2.2.2.2 b hmem
 obtain ⟨hPh,hIn,hTm⟩:=hS.2.2.2.2.2 b hmem
 rw[Fg hget]
 refine zk func56 Z (by decide) Z<|ae<|zy (cs:=_) Z Z Z<|zy (cs:=[_]) Z Z Z<|zy (cs:=[_]) Z Z Z<|zy (cs:=[_]) Z Z Z<|ad Z<|z6<|ae<|aj jt Z Zj Z Z<|bd Zn Z<|aw jq Z<|z7 (db i jw Z2 Z Z Z hget)<|ab Y6 Z2 Z Z<|zo (cs:=[.str ⟨#[]⟩,.raw (.slice none 0 0),.raw (.slice none 0 0),.int .i64 0,.int .i64 0,.int .i64 0,.int .i64 0]) Zf Z Z<|fun i9=>zf Z2 Z Z Z Z Z Z .head Z<|zc (yk (t:=9) Z .head)<|z6<|ze<|ae<|aj jy Z Yc Z Z<|bd isAgg49 Z<|au Zc Z<|aa Z<|z6<|zj<|ya (γ:=Nat) [4,5,6,7,9,23,24] (fun j=>[(25,.int .i64 j)]) (fun j=>[]) (fun j=>j≤b.phis.length∧(b.phis.take j).all (HV f)=true) (fun j=>b.phis.length - j) 0 aT aJ (⟨qm _,Z⟩) ?_
 rintro j ⟨hj,hjall⟩
 refine ae<|ax Z Z<|z6<|ze<|zp Z (fun cj=>?_) (fun cj=>?_)
 ·have hj2:j<b.phis.length:=by simp at cj;omega
  obtain ⟨p,hp⟩:∃p,b.phis[j]=p:=⟨_,rfl⟩
  have hpm:p∈b.phis:=hp▸qn hj2
  obtain ⟨hpd,hpl,hpn,hpa,hpf⟩:=hPh p hpm
  have hpb:=hb3 p hpm
  refine zi<|ze<|zj<|ae<|z7 (db j Zc Zg Z Z Z (by rw[qj hj2,hp])) ?_
  refine ab isAgg63 Zg Z Z<|zo (cs:=[.int .i64 0,.raw (.slice none 0 0),.raw (.slice none 0 0)]) zeroValue63 Z Z<|fun i11=>zf Zg Z Z Z Z Z Z .head Z<|zc (yk (t:=11) Z .head)<|z6<|ae<|aj Za Z jr Z Z<|bd jv Z<|au jh Z<|aa Z<|z6<|zj<|ya (γ:=Nat) [4,5,6,7,9,11,23,24,25,30,31] (fun k=>[(32,.int .i64 k)]) (fun k=>[]) (fun k=>k≤p.args.length∧((p.args.zip p.from_).take k).all (fun q=>dD f (aZ f q.1) q.2 (pz f q.2))=true) (fun k=>p.args.length - k) 0 aT aJ (⟨qm _,Z⟩) ?_
  rintro k ⟨hk,hkall⟩
  refine ae<|ax Z Z<|z6<|ze<|zp Z (fun ck=>?_) (fun ck=>?_)
  ·have hk2:k<p.args.length:=by simp at ck;omega
   have hk3:k<p.from_.length:=by omega
   obtain ⟨v,hv⟩:∃v,p.args[k]=v:=⟨_,rfl⟩
   obtain ⟨c,hc⟩:∃c,p.from_[k]=c:=⟨_,rfl⟩
   obtain ⟨hv0,hvg⟩:=kI (List.all_eq_true.1 hpa v (hv▸qn hk2))
   have hcr:0≤c∧c<f.blocks.length:=by have:=List.all_eq_true.1 hpf c (hc▸qn hk3);simpa [iR] using this
   obtain ⟨d,hd⟩:∃d,f.blocks[c.toNat]'(by omega)=d:=⟨_,rfl⟩
   have hdg:f.blocks[c.toNat]?=some d:=by rw[qj (by omega),hd]
   have hla:pz f c=d.insts.length:=by unfold pz;rw[hdg];rfl
   have hz:k<(p.args.zip p.from_).length:=by rw[List.length_zip];omega
   have hzk:(p.args.zip p.from_)[k]=(v,c):=by rw[List.getElem_zip,hv,hc]
   refine zi<|ze<|zj<|ae<|aa Z<|z7 (db k jh jm Z Z Z (by rw[qj hk2,hv])) ?_
   refine aw jq Z<|aq Z<|aq Z<|z6<|ae<|aj Za Z jr Z Z<|bd jv Z<|aa Z<|z7 (db k jh jm Z Z Z (by rw[qj hk3,hc])) ?_
   refine aw jq Z<|aq Z<|z6<|ze<|zw (fun j=>false) (by kernel_rfl) Z (zn (.rest _))<|ao 0 Z (q7 (c:=.pf _) isAgg56 Z)<|ao 1 Z (lA Ya Z)<|ao 2 Z (fC Z)<|ao 3 Z (db v.toNat Z6 Zl Z Z (by omega) hvg)<|ao 4 Z (yl isAgg74 Zl Z Z)<|ao 5 Z (fC Z)<|ao 6 Z (eh jt Z Zj Z Z)<|ao 7 Z (lA Zn Z)<|ao 8 Z (fC Z)<|ao 9 Z (db c.toNat jw Z2 Z Z (by omega) hdg)<|ao 10 Z (eh jy Z Y2 Z Z)<|ao 11 Z (lA Y9 Z)<|ao 12 Z (Gv.lenM Z5 Z)<|aL 13 Z<|zg (hU f hE hn (aZ f v) c d.insts.length x y) Z<|z6<|ao 14 Z (yo Z)<|bO<|zz Z (fun cq=>?_) (fun cq=>?_)
   ·have hq:dD f (aZ f v) c (pz f c)=false:=by rw[hla];simpa using cq
    refine ae<|ad Z<|z6<|zh<|zm (x:=.bool _) Z ?_
    rw[yC,show b.phis.all (HV f)=false from Bool.eq_false_iff.2 (fj hj2 (by rw[hp];unfold HV;exact Bool.eq_false_iff.2 (fj hz (by rw[hzk];exact hq))))];rfl
   ·have hq:dD f (aZ f v) c (pz f c)=true:=by rw[hla];simpa using cq
    refine zi<|bD<|aQ Z Z<|aa Z<|z6 ?_
    exact ⟨k+1,⟨rfl,rfl,rfl,rfl,rfl,rfl,rfl,rfl,rfl,rfl,rfl,trivial⟩,aT,aJ,⟨hk2,fv hz hkall (by rw[hzk];exact hq)⟩,by omega⟩
  ·have hkn:k=p.args.length:=by simp at ck;omega
   have hzl:(p.args.zip p.from_).length=p.args.length:=by rw[List.length_zip];omega
   rw[hkn,←hzl,qo] at hkall
   refine y8<|bD<|aQ Z Z<|aa Z<|z6 ?_
   exact ⟨j+1,Aw,aT,aJ,⟨hj2,fv hj2 hjall (by rw[hp];exact hkall)⟩,by omega⟩
 ·have hjn:j=b.phis.length:=by simp at cj;omega
  subst hjn
  rw[qo] at hjall
  refine y8<|ze<|ae<|aj jy Z Y2 Z Z<|bd Y9 Z<|au Z5 Z<|aa Z<|z6<|zj<|ya (γ:=Nat) [5,6,7,9,60,61] (fun k=>[(62,.int .i64 k)]) (fun k=>[]) (fun k=>k≤b.insts.length∧((b.insts.zipIdx).take k).all (Ff f i)=true) (fun k=>b.insts.length - k) 0 aT aJ (⟨qm _,Z⟩) ?_
  rintro k ⟨hk,hkall⟩
  refine ae<|ax Z Z<|z6<|ze<|zp Z (fun ck=>?_) (fun ck=>?_)
  ·have hk2:k<b.insts.length:=by simp at ck;omega
   obtain ⟨z,hzk⟩:∃z,b.insts[k]=z:=⟨_,rfl⟩
   have hzm:z∈b.insts:=hzk▸qn hk2
   have hI:=gl (hIn z hzm)
   have hzl:=hb4 z hzm
   have hzi:k<b.insts.zipIdx.length:=by simp;exact hk2
   have hze:b.insts.zipIdx[k]=(z,k):=by simp[hzk]
   refine zi<|ze<|zj<|ae<|aa Z<|z7 (db k Z5 Z8 Z Z Z (by rw[qj hk2,hzk])) ?_
   refine ab Y8 Z8 Z Z<|zo (cs:=[.int .i64 0]) Y1 Z Z<|fun i15=>zo (cs:=[.int .i64 0,.int .i64 0,.raw (.slice none 0 0),.int .i64 0]) Zx Z Z<|fun i16=>zf jm Z Z Z Z Z Z .t1 Z<|zc (yk (t:=15) Z .t1)<|zf Z8 Z Z Z Z Z Z .head Z<|zc (yk (t:=16) Z .head)<|z6<|ae<|aj jo Z jr Z Z<|bd jv Z<|z7 (Gv.func Z Z)<|zg (kH z.args (by omega) (fun v hv=>rV f hE hn i k v (hI.args v hv) x y)) Z<|z6<|zz Z (fun cq=>?_) (fun cq=>?_)
   ·have hq:Ff f i (z,k)=false:=by
     unfold Ff
     rw[Bool.eq_false_iff];intro h
     obtain ⟨v,hv1,hv2⟩:=List.any_eq_true.1 (show (z.args.any fun v=>!dD f (aZ f v) i k)=true by simpa using cq)
     have:=List.all_eq_true.1 h v hv1
     rw[this] at hv2;cases hv2
    refine ae<|ad Z<|z6<|zh<|zm (x:=.bool _) Z ?_
    rw[yC,hjall,show b.insts.zipIdx.all (Ff f i)=false from Bool.eq_false_iff.2 (fj hzi (by rw[hze];exact hq))];rfl
   ·have hq:Ff f i (z,k)=true:=by
     unfold Ff
     rw[List.all_eq_true];intro v hv
     have h0:(z.args.any fun v=>!dD f (aZ f v) i k)=false:=by simpa using cq
     have:=List.any_eq_false.1 h0 v hv
     simpa using this
    refine zi<|bD<|aQ Z Z<|aa Z<|z6 ?_
    exact ⟨k+1,AY,aT,aJ,⟨hk2,fv hzi hkall (by rw[hze];exact hq)⟩,by omega⟩
  ·have hkn:k=b.insts.length:=by simp at ck;omega
   rw[hkn,show b.insts.length=b.insts.zipIdx.length by simp,qo] at hkall
   refine y8<|ze<|zw (fun j=>false) (by kernel_rfl) Z (zn (.rest _))<|ao 0 Z (eh jy Z Y7 Z Z)<|ao 1 Z (eh Z0 Z sizeOf45 Z Z)<|ao 2 Z (gy isAgg45 Z)<|ao 3 Z (Gv.eqlI Z Z)<|ao 4 Z (EK Z)<|bt.case (s:=76) Z (fun c0=>?_) (fun c0=>?_)
   ·have d0:b.term.kind=0:=by simpa using c0
    refine fm 5 Z Z Z c0<|fm 6 Z Z Z c0<|fm 7 Z Z Z c0<|fm 8 Z Z Z c0<|fm 9 Z Z Z c0<|fm 10 Z Z Z c0<|fm 11 Z Z Z c0<|fm 12 Z Z Z c0<|fm 13 Z Z Z c0<|fm 14 Z Z Z c0<|fm 15 Z Z Z c0<|fm 16 Z Z Z c0<|ao 17 Z (Fh Z c0 Z)<|ao 18 Z (sA Z)<|bO<|zh<|zm (x:=.bool _) Z ?_
    rw[yC,hjall,hkall,H4,d0];rfl
   ·have d0:¬b.term.kind=0:=by simpa using c0
    obtain ⟨hv0,hvg⟩:=kI (tD hTm d0)
    refine ir 5 Z Z Z c0 (q7 (c:=.pf _) isAgg56 Z)<|ir 6 Z Z Z c0 (lA Ya Z)<|ir 7 Z Z Z c0 (eh jy Z Y7 Z Z)<|ir 8 Z Z Z c0 (eh Z0 Z jm Z Z)<|ir 9 Z Z Z c0 (gy jq Z)<|ir 10 Z Z Z c0 (db b.term.var.toNat Z6 Zl Z Z (by omega) hvg)<|ir 11 Z Z Z c0 (yl isAgg74 Zl Z Z)<|ir 12 Z Z Z c0 (gy jq Z)<|ir 13 Z Z Z c0 (eh jy Z Y2 Z Z)<|ir 14 Z Z Z c0 (lA Y9 Z)<|ir 15 Z Z Z c0 (Gv.lenM Z5 Z)<|aL 16 Z<|za Z Z c0<|zg (hU f hE hn (aZ f b.term.var) i b.insts.length x y) Z<|z6<|ao 17 Z (C8 Z c0 Z)<|ao 18 Z (sA Z)<|bO<|zh<|zm (x:=.bool _) Z ?_
    rw[yC,hjall,hkall,H4,decide_eq_false d0];rfl
theorem oO (f:ac) (hf:small f) (hL:aE E):aF prog E 25 [.agg (b9 f)] (.int .i64 (if (bf f&&dZ f)=true then 0 else 3)):=by
 have hn:=hf.2.2.1
 refine zk func25 Z (by decide) Z<|ae<|zy (cs:=_) Z Z Z<|aq Z<|z6<|ze<|ae<|ab jx js Z Z<|zg (rR f hf hL) Z<|z7 (yw Z Z)<|ay Z<|zx (s:=10) Z (fun c1=>?_) (fun c1=>?_)
 ·have d1:(bf f&&df f)=false:=by
   cases h:(bf f&&df f) with
   |false=>rfl
   |true=>rw[h] at c1;simp at c1
  refine z8 Z Z c1<|z8 Z Z c1<|z8 Z Z c1<|aM Z c1 Z<|ay Z<|z8 Z Z Z<|z8 Z Z Z<|z8 Z Z Z<|aM Z Z Z<|z6<|yq Z Z<|ae<|aq Z<|z6<|zh<|zm (x:=.int _ _) Z ?_
  rw[show (bf f&&dZ f)=false by unfold dZ;cases h:bf f<;>simp_all];rfl
 ·have d1:(bf f&&df f)=true:=by
   cases h:(bf f&&df f) with
   |true=>rfl
   |false=>rw[h] at c1;simp at c1
  have ht:bf f=true:=by simp at d1;exact d1.1
  have hj:df f=true:=by simp at d1;exact d1.2
  have hE:=dK ht
  have hS:=fk ht
  refine za Z Z c1<|ab jx js Z Z<|za Z Z c1<|zg (tG f hf hL ht) Z<|za Z Z c1<|zg (oI (km (ah f) f.blocks.length) false (by rw[uE];omega)) Z<|aD Z c1 Z<|ay Z<|zx (s:=15) Z (fun c2=>?_) (fun c2=>?_)
  ·refine z8 Z Z c2<|z8 Z Z c2<|z8 Z Z c2<|aM Z c2 Z<|z6<|yq Z Z<|ae<|aq Z<|z6<|zh<|zm (x:=.int _ _) Z ?_
   rw[show dZ f=false by unfold dZ;simp_all];simp
  ·refine za Z Z c2<|ab jx js Z Z<|za Z Z c2<|zg (Ai f hf hS) Z<|za Z Z c2<|z7 (yo Z)<|aD Z c2 Z<|z6<|zz Z (fun c3=>?_) (fun c3=>?_)
   ·refine ae<|aq Z<|z6<|zh<|zm (x:=.int _ _) Z ?_
    rw[show dZ f=false by unfold dZ;simp_all];simp
   ·refine zi<|ae<|ab jx js Z Z<|zg (tP f hf hL ht) Z<|z7 (vX Z)<|z7 (q4 (v:=.pf _) Z Z)<|z7 (r8 Z Z)<|z7 (y7 (v:=.pf _) Z)<|aq Z<|z6<|ze<|ae<|aa Z<|z7 (yw Z Z)<|z6<|yn Z Z<|zi<|ae<|ab jx js Z Z<|zg (jG f hf hL ht) Z<|z7 (um Z)<|z6<|ze<|ae<|aj jt Z Zj Z Z<|bd Zn Z<|au jw Z<|aa Z<|z6<|zj<|ya (γ:=Nat) [1,3,5,32] (fun k=>[(33,.int .i64 k)]) (fun k=>[]) (fun k=>k≤f.blocks.length∧(List.range k).all (GJ f)=true) (fun k=>f.blocks.length - k) 0 aT aJ (⟨qm _,Z⟩) ?_
    rintro k ⟨hk,hall⟩
    refine ae<|ax Z Z<|z6<|ze<|zp Z (fun ck=>?_) (fun ck=>?_)
    ·have hk2:k<f.blocks.length:=by simp at ck;omega
     refine zi<|ze<|zj<|ae<|aa Z<|aq Z<|z6<|ae<|ab jx js Z Z<|z7 (j8 Z)<|bh Z<|aa Z<|zg (tQ f hE hf hS k hk2 (mF eI (xe f)) .any) Z<|z7 (yo Z)<|z6<|zz Z (fun cq=>?_) (fun cq=>?_)
     ·refine ae<|aq Z<|z6<|zh<|zm (x:=.int _ _) Z ?_
      rw[show dZ f=false by unfold dZ;rw[show Dk f=false from fh hk2 (by simpa using cq)];simp];simp
     ·refine zi<|bD<|aQ Z Z<|aa Z<|z6 ?_
      exact ⟨k+1,mB,aT,aJ,⟨hk2,eF hall (by simpa using cq)⟩,by omega⟩
    ·have hkn:k=f.blocks.length:=by simp at ck;omega
     subst hkn
     refine y8<|ae<|aq Z<|z6<|zh<|zm (x:=.int _ _) Z ?_
     rw[ht,show dZ f=true by unfold dZ;rw[show Dk f=true from hall];simp_all];rfl
end
section
open Go.Proofs.Tryz
open Go.Proofs Go.Lib Go.Shelf Go.RowKit
variable {E:World}
set_option maxRecDepth 20000
end
section
open Go.Proofs.Tryz
open Go.Proofs Go.Lib Go.Shelf Go.RowKit
variable {E:World}
set_option maxRecDepth 20000
end
section
open Go.Proofs.Tryz
open Go.Proofs Go.Lib Go.Shelf Go.RowKit
variable {E:World}
set_option maxRecDepth 20000
end
section
open Go.Proofs.Tryz
open Go.Proofs Go.Lib Go.Shelf Go.RowKit
variable {E:World}
set_option maxRecDepth 20000
end
section
open Go.Proofs.Tryz
open Go.Proofs Go.Lib Go.Shelf Go.RowKit
variable {E:World}
set_option maxRecDepth 20000
end
section
open Go.Proofs.Tryz
open Go.Proofs Go.Lib Go.Shelf Go.RowKit
variable {E:World}
set_option maxRecDepth 20000
end
section
open Go.Proofs.Tryz
open Go.Proofs Go.Lib Go.Shelf Go.RowKit
variable {E:World}
set_option maxRecDepth 20000
end
section
open Go.Proofs.Tryz
open Go.Proofs Go.Lib Go.Shelf Go.RowKit
variable {E:World}
set_option maxRecDepth 20000
end
end Go.Proofs.YthphijnnbfjikaaGreatDoor
