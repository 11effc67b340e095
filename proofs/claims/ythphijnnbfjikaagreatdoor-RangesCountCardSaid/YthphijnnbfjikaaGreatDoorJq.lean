/- What is told of a value may be told less closely. No conditions. -/
import Derived.Test.YthphijnnbfjikaaGreatDoorJp
import Derived.Test.YthphijnnbfjikaaGreatDoorJd
import Derived.Test.YthphijnnbfjikaaGreatDoorJf
import Derived.Test.YthphijnnbfjikaaGreatDoorJe
set_option linter.unusedVariables false
set_option linter.unusedSimpArgs false
set_option linter.unusedSectionVars false
namespace Go.Proofs.YthphijnnbfjikaaGreatDoor
section
open Go.Proofs.Tryz
open Go.Proofs Go.Lib Go.Shelf Go.RowKit
theorem HE:eD prog 71 #[(0,3),(3,1),(4,1),(5,1)] [.raw (.slice none 0 0),.raw (.slice none 0 0),.raw (.slice none 0 0),.raw (.slice none 0 0),.raw (.slice none 0 0),.raw (.slice none 0 0)]:=⟨_,_,Z7,zeroValue71,fun w=>by kernel_rfl,rfl⟩
variable {E:World}
set_option maxRecDepth 20000
theorem pe (op:Int):aF prog E 27 [.int .i64 op] (.int .i64 (gR op)):=by
 refine zk func27 Z (by decide) Z<|ae<|aq Z<|z6<|ze<|ae<|aa Z<|z6<|zj<|ze<|ae<|ak Z Z<|ad Z<|z6<|ym (γ:=Bool) [0] (fun u=>[(4,.bool u)]) (fun u=>[]) (fun u=>u=decide (op=2∨op=3∨op=4)) ?_ (fun _ _ h=>h) ?_
 ·refine zz Z (fun c1=>?_) (fun c1=>?_)
  ·refine zi ?_
   exact ⟨_,aT,aT,aJ,by simp_all⟩
  ·refine ae<|ak Z Z<|ad Z<|z6<|zz Z (fun c2=>?_) (fun c2=>?_)
   ·refine zi ?_
    exact ⟨_,aT,aT,aJ,by simp_all⟩
   ·refine bD<|ak Z Z<|ad Z<|z6 ?_
    exact ⟨_,aT,aT,aJ,by simp_all⟩
 ·rintro u hu
  subst hu
  refine zp Z (fun c=>?_) (fun c=>?_)
  ·refine ae<|aa Z<|z7 (Gv.addW Z Z)<|z7 (Gv.subW Z Z)<|aq Z<|z6<|zh<|zm (x:=.int _ _) Z ?_
   rw[gR,if_pos c,eH (z:=21+op) (by unfold aK;omega),eH (by unfold aK;omega)];congr 1;omega
  ·refine zi<|ae<|aq Z<|z6<|zh<|zm (x:=.int _ _) Z ?_
   rw[gR,if_neg c]
def CS (f:ac) (es:List (Int × List lX)):Prop:=∀q,mg q es=lJ f f.blocks.length q
set_option maxHeartbeats 4000000 in
theorem tV (f:ac) (hf:small f):aU prog E 26 [.agg (b9 f)] [] fun x O=>∃g:Nat × List (Int × List lX),x=gE g.1∧O=[(0,l6 eP g.1 g.2)]∧CS f g.2:=by
 have hn:=hf.2.2.1
 have hpl:∀q k,k≤f.blocks.length→(lJ f k q).length≤k*1000:=fun q k hk=>nU (fun b hb=>(hf.2.2.2.2 b hb).2.2.1) k hk
 refine aU.exact (γ:=Nat × List (Int × List lX)) (x:=fun g=>gE g.1) (M:=fun g=>[(0,l6 eP g.1 g.2)]) (p:=fun g=>CS f g.2)<|zk func26 Z (by decide) Z<|ae<|zy (cs:=_) Z Z Z<|z7 (mS Z)<|z6<|ae<|ai.makeMapN eP 74<|fun b8=>z7 (y7 (v:=gE _) Z)<|z6<|ze<|ae<|aj jt Z Zj Z Z<|bd Zn Z<|au jw Z<|aa Z<|z6<|zj<|ya (γ:=Nat × List (Int × List lX)) [3,10,11] (fun g=>[(12,.int .i64 g.1)]) (fun g=>[(0,jA eP 74 b8 g.2)]) (fun g=>g.1≤f.blocks.length∧∀q,mg q g.2=lJ f g.1 q) (fun g=>f.blocks.length - g.1) (0,[]) aT aJ (⟨qm _,fun q=>Z⟩) ?_
 rintro ⟨i,es⟩ ⟨hi,hes⟩
 try dsimp only at *
 refine ae<|ax Z Z<|z6<|ze<|zp Z (fun ci=>?_) (fun ci=>?_)
 ·have hi2:i<f.blocks.length:=by simp at ci;omega
  obtain ⟨b,hbi⟩:∃b,f.blocks[i]=b:=⟨_,rfl⟩
  have hget:f.blocks[i]?=some b:=by rw[qj hi2,hbi]
  obtain ⟨hb0,hb1,hb2,hb3,hb4⟩:=hf.2.2.2.2 b (hbi▸qn hi2)
  refine zi<|ze<|zj<|ae<|aa Z<|z7 (db i jw Z2 Z Z Z hget)<|ab Y6 Z2 Z Z<|zo (cs:=[.str ⟨#[]⟩,.raw (.slice none 0 0),.raw (.slice none 0 0),.int .i64 0,.int .i64 0,.int .i64 0,.int .i64 0]) Zf Z Z<|fun i5=>aq Z<|zf Z2 Z Z Z Z Z Z .head Z<|zc (yk (t:=5) Z .head)<|z6<|ae<|aj jy Z Y2 Z Z<|bd Y9 Z<|au Z5 Z<|aa Z<|z6<|zj<|ya (γ:=Nat × List (Int × List lX)) [3,4,10,11,12,18,19] (fun g=>[(20,.int .i64 g.1)]) (fun g=>[(0,jA eP 74 b8 g.2)]) (fun g=>g.1≤b.insts.length∧∀q,mg q g.2=lJ f i q++nT q i (b.insts.take g.1)) (fun g=>b.insts.length - g.1) (0,es) aT aJ (⟨qm _,fun q=>by rw[hes q];unfold nT;split<;>simp⟩) ?_
  rintro ⟨j,es⟩ ⟨hj,hes⟩
  try dsimp only at *
  refine ae<|ax Z Z<|z6<|ze<|zp Z (fun cj=>?_) (fun cj=>?_)
  ·have hj2:j<b.insts.length:=by simp at cj;omega
   obtain ⟨z,hz⟩:∃z,b.insts[j]=z:=⟨_,rfl⟩
   have hstep:∀q,lJ f i q++nT q i (b.insts.take (j+1))=mg q es++if fT q∧z.op=q then[((i:Int),(j:Int))] else[]:=fun q=>by rw[yL q i hj2,hz,←ql,←hes q]
   have hlen:∀q,(mg q es).length≤2000000:=fun q=>by
    have h1:=hpl q i hi
    have h2:=sQ q i (b.insts.take j)
    rw[List.length_take] at h2
    rw[hes q,qp];omega
   refine zi<|ze<|zj<|ae<|aa Z<|z7 (db j Z5 Z8 Z Z Z (by rw[qj hj2,hz])) ?_
   refine ab Y8 Z8 Z Z<|zo (cs:=[.int .i64 0,.int .i64 0,.raw (.slice none 0 0),.int .i64 0]) Zx Z Z<|fun i7=>aq Z<|zf Z8 Z Z Z Z Z Z .head Z<|zc (yk (t:=7) Z .head)<|z6<|ze<|ym (γ:=Bool) [3,4,6,7,10,11,12,18,19,20] (fun u=>[(32,.bool u)]) (fun u=>[(0,jA eP 74 b8 es)]) (fun u=>u=decide (fT z.op)) ?_ (fun _ _ h=>h) ?_
   ·refine bD<|aj jo Z Zi Z Z<|aw Zm Z<|z7 (qa Z Z)<|ay Z<|zx (s:=28) Z (fun c1=>?_) (fun c1=>?_)
    ·refine za Z Z c1<|aj jo Z Zi Z Z<|za Z Z c1<|aw Zm Z<|za Z Z c1<|z7 (Gv.leq Z Z)<|aM Z c1 Z<|z6 ?_
     exact ⟨_,nI,aT,aJ,decide_eq_decide.2 (by unfold fT;have:=of_decide_eq_true c1;omega)⟩
    ·refine z8 Z Z c1<|z8 Z Z c1<|z8 Z Z c1<|aD Z c1 Z<|z6 ?_
     exact ⟨_,nI,aT,aJ,(decide_eq_false (by unfold fT;have:=of_decide_eq_false c1;omega)).symm⟩
   ·rintro u hu
    subst hu
    refine zp Z (fun cc=>?_) (fun cc=>?_)
    ·have hlz:=hlen z.op
     refine ym (γ:=Unit) [3,4,10,11,12,18,19,20] (fun u=>[]) (fun u=>[(0,jA eP 74 b8 (ms z.op (mg z.op es++[((i:Int),(j:Int))]) es))]) (fun u=>True) ?_ (fun _ _ h=>h) ?_
     ·refine zw (fun j=>false) (by kernel_rfl) Z (zn (.rest _))<|ao 0 Z (yb (v:=gE _) Z)<|ao 1 Z (eh jo Z Zi Z Z)<|ao 2 Z (gy Zm Z)<|ao 3 Z (yb (v:=gE _) Z)<|ao 4 Z (eh jo Z Zi Z Z)<|ao 5 Z (gy Zm Z)<|ao 7 Z (fC Z)<|ao 8 Z (fC Z)<|ao 9 Z (zt (cps:=[(0,[_]),(1,[_])]) (rs:=[_,_]) Eo Z Z Z)<|yg (i:=6) (j:=10) Z Z (by kernel_rfl) ?_ ?_
      ·refine ai.mapTake underlying89 underlying41 zeroValue57 Z Z .head<|fun i39=>z6<|aL 10 Z<|zr (rows:=[[_,_]]) jF Z Z Z Z Z<|z6<|aL 11 Z<|yp (k:=2) Z6 type74 Z Z Z Z Z (fun _=>.head) (by rw[eP.av_len];rfl) (by decide) Z (by show (_+1)*16≤_;omega) (by show _+1≤_;omega)<|fun i44=>z6<|aL 12 Z<|ai.mapPut (r:=mg z.op es++[((i:Int),(j:Int))]) underlying89 underlying41 Z Z Z .head .head Z (eP.av_push (mg z.op es) ((i:Int),(j:Int))) (by rw[qp];rfl)<|z6<|bO ?_
       exact ⟨(),yE,trivial,aJ,trivial⟩
      ·refine zr (rows:=[[_,_]]) jF Z Z Z Z Z<|z6<|aL 6 Z<|ai.mapTake underlying89 underlying41 zeroValue57 Z Z .head<|fun i39=>z6<|aL 11 Z<|yp (k:=2) Z6 type74 Z Z Z Z Z (fun _=>.head) (by rw[eP.av_len];rfl) (by decide) Z (by show (_+1)*16≤_;omega) (by show _+1≤_;omega)<|fun i44=>z6<|aL 12 Z<|ai.mapPut (r:=mg z.op es++[((i:Int),(j:Int))]) underlying89 underlying41 Z Z Z .head .head Z (eP.av_push (mg z.op es) ((i:Int),(j:Int))) (by rw[qp];rfl)<|z6<|bO ?_
       exact ⟨(),yE,trivial,aJ,trivial⟩
     ·rintro _ _
      refine bD<|aQ Z Z<|aa Z<|z6 ?_
      exact ⟨(j+1,ms z.op (mg z.op es++[((i:Int),(j:Int))]) es),Aw,aT,aJ,⟨hj2,fun q=>by rw[hstep,EQ];by_cases e:q=z.op;rw[if_pos e,if_pos ⟨e▸cc,e.symm⟩,e];rw[if_neg e,if_neg (fun h:fT q∧z.op=q=>e h.2.symm),List.append_nil]⟩,by dsimp only;omega⟩
    ·refine zi<|bD<|aQ Z Z<|aa Z<|z6 ?_
     exact ⟨(j+1,es),Aw,aT,aJ,⟨hj2,fun q=>by rw[hstep,if_neg (fun h:fT q∧z.op=q=>cc (h.2▸h.1)),List.append_nil]⟩,by dsimp only;omega⟩
  ·have hjn:j=b.insts.length:=by simp at cj;omega
   subst hjn
   refine y8<|bD<|aQ Z Z<|aa Z<|z6 ?_
   exact ⟨(i+1,es),bX,aT,aJ,⟨hi2,fun q=>by rw[hes q,qo,pI q hi2,hbi]⟩,by dsimp only;omega⟩
 ·have hin:i=f.blocks.length:=by simp at ci;omega
  subst hin
  refine y8<|yh (aN.mapKnow .head)<|ae<|z7 (yb (v:=gE _) Z)<|z7 (y7 (v:=gE _) Z)<|z6<|zh<|zm (x:=gE _) Z ?_
  exact ⟨(b8,es),rfl,⟨_,.refl _,rfl⟩,hes⟩
def HF (f:ac) (x:AV) (O:OL):Prop:=∃iv:Nat,x=.tup [.po iv 0,.int .i64 0]∧O=[(iv,.cells 71 (tU f (gv f) (.raw (.slice none 0 0))))]
set_option maxHeartbeats 8000000 in
theorem Eq (f:ac) (hf:small f) (hL:aE E) (h:(bf f&&dZ f)=true):aU prog E 11 [.agg (b9 f)] [] (HF f):=by
 have hn:=hf.2.2.1
 have hvn:=hf.1
 have hR:=oO (E:=E) f hf hL
 rw[h] at hR
 have ht:=(An h).1
 have hs:=(An h).2
 have hE:=dK ht
 have hS:=fk ht
 have honce:lY f:=(pC f).1 (by unfold dZ at hs;simp only[qu] at hs;exact hs.2.2.1)
 refine aU.exact (γ:=Nat) (x:=fun iv=>.tup [.po iv 0,.int .i64 0]) (M:=fun iv=>[(iv,.cells 71 (tU f (gv f) (.raw (.slice none 0 0))))]) (p:=fun _=>True) ?_ |>.mono fun x O ⟨iv,h1,h2,_⟩=>⟨iv,h1,h2⟩
 refine zk func11 Z (by decide) Z<|ae<|zy (cs:=_) Z Z Z<|z7 (mS Z)<|aq Z<|z6<|ze<|ae<|ab jx js Z Z<|zg (hR) Z<|aq Z<|z6<|ae<|aa Z<|z7 (yw Z Z)<|z6<|yn Z Z<|zi<|ae<|ab jx js Z Z<|zg (tP f hf hL ht) Z<|z7 (vX Z)<|z7 (q4 (v:=.pf _) Z Z)<|z7 (r8 Z Z)<|z7 (y7 (v:=.pf _) Z)<|aq Z<|z6<|ze<|ae<|aa Z<|z7 (yw Z Z)<|z6<|yn Z Z<|zi<|ze<|ym (γ:=Nat × Nat) [1,5] (fun z=>[(7,.po z.1 0)]) (fun z=>[(z.1,.cells 71 (b9 f++[.fro 2 ((bP f).map eP.row),.own z.2 f.vars.length,.raw (.slice none 0 0)])),(z.2,.grow 1 4 (cB (List.replicate f.vars.length false)))]) (fun z=>True) ?_ (fun _ _ h=>h) ?_
 ·refine zw (fun j=>false) (by kernel_rfl) Z (zn (.rest _))<|ao 0 Z (yl jx js Z Z)<|ao 1 Z (yl jx js Z Z)<|ao 3 Z (eh jt Z Y4 Z Z)<|ao 4 Z (lA Yb Z)<|ao 5 Z (Gv.lenM Zd Z)<|yg (i:=2) (j:=6) Z Z (by kernel_rfl) ?_ ?_
  ·refine zg (jG f hf hL ht) Z<|z6<|aL 6 Z<|ai.makeB (m:=f.vars.length) Zk type4 Z Z Z Z Z (by simp) (by simp) (by show (1:Int)*_≤_;omega) (by omega)<|fun i35=>z6<|ao 7 Z (zt (cps:=[(0,[_,_,_]),(1,[_]),(2,[_])]) (rs:=[_,_,_,_,_,.raw (.slice none 0 0)]) HE Z Z Z)<|aL 8 Z<|yi (cs:=_) Z Z Z Z<|fun i37=>z6<|ao 9 Z (f9 Z)<|bO ?_
   exact ⟨(i37,i35),cU,aT,aJ,trivial⟩
  ·refine ai.makeB (m:=f.vars.length) Zk type4 Z Z Z Z Z (by simp) (by simp) (by show (1:Int)*_≤_;omega) (by omega)<|fun i35=>z6<|aL 2 Z<|zg (jG f hf hL ht) Z<|z6<|ao 7 Z (zt (cps:=[(0,[_,_,_]),(1,[_]),(2,[_])]) (rs:=[_,_,_,_,_,.raw (.slice none 0 0)]) HE Z Z Z)<|aL 8 Z<|yi (cs:=_) Z Z Z Z<|fun i37=>z6<|ao 9 Z (f9 Z)<|bO ?_
   exact ⟨(i37,i35),cU,aT,aJ,trivial⟩
 ·rintro ⟨iv,ck⟩ _
  refine ae<|ab jx js Z Z<|zq Z (zn (.r (.r (.rest _)))) (tV f hf) ?_
  rintro r39 O39 ⟨⟨mb,es⟩,rfl,rfl,hes⟩
  refine z7 (y7 (v:=gE _) Z)<|z6<|ze<|ae<|aj jt Z Zj Z Z<|bd Zn Z<|au jw Z<|aa Z<|z6<|yh (zb (zd .t2))<|yh (zb (zd .t2))<|zj<|ya (γ:=Nat × List Bool) [1,5,7,8,41,42] (fun g=>[(43,.int .i64 g.1)]) (fun g=>[(iv,.cells 71 (b9 f++[.fro 2 ((bP f).map eP.row),.own ck f.vars.length,.raw (.slice none 0 0)])),(ck,.grow 1 4 (cB g.2)),(0,l6 eP mb es)]) (fun g=>g.1≤f.blocks.length∧g.2.length=f.vars.length∧∀v:Nat,v<f.vars.length→(gb g.2 v=true↔iE f g.1 0 v)) (fun g=>f.blocks.length - g.1) (0,List.replicate f.vars.length false) aT aJ (⟨qm _,by simp,fun v hv=>by rw[nH,List.getElem?_replicate,if_pos hv];simpa using iE.zero f v⟩) ?_
  rintro ⟨i,L⟩ ⟨hi,hLl,hLd⟩
  try dsimp only at *
  refine ae<|ax Z Z<|z6<|ze<|zp Z (fun ci=>?_) (fun ci=>?_)
  ·have hi2:i<f.blocks.length:=by simp at ci;omega
   obtain ⟨b,hbi⟩:∃b,f.blocks[i]=b:=⟨_,rfl⟩
   have hget:f.blocks[i]?=some b:=by rw[qj hi2,hbi]
   have hmem:b∈f.blocks:=hbi▸qn hi2
   obtain ⟨hb0,hb1,hb2,hb3,hb4⟩:=hf.2.2.2.2 b hmem
   obtain ⟨hPh,hIn,hTm⟩:=hS.2.2.2.2.2 b hmem
   refine zi<|ze<|zj<|ae<|aa Z<|z7 (db i jw Z2 Z Z Z hget)<|ab Y6 Z2 Z Z<|zo (cs:=[.str ⟨#[]⟩,.raw (.slice none 0 0),.raw (.slice none 0 0),.int .i64 0,.int .i64 0,.int .i64 0,.int .i64 0]) Zf Z Z<|fun i10=>aq Z<|zf Z2 Z Z Z Z Z Z .head Z<|zc (yk (t:=10) Z .head)<|z6<|ae<|aj jy Z Y2 Z Z<|bd Y9 Z<|au Z5 Z<|aa Z<|z6<|zj<|ya (γ:=Nat × List Bool) [1,5,7,8,9,41,42,43,49,50] (fun g=>[(51,.int .i64 g.1)]) (fun g=>[(iv,.cells 71 (b9 f++[.fro 2 ((bP f).map eP.row),.own ck f.vars.length,.raw (.slice none 0 0)])),(ck,.grow 1 4 (cB g.2)),(0,l6 eP mb es)]) (fun g=>g.1≤b.insts.length∧g.2.length=f.vars.length∧∀v:Nat,v<f.vars.length→(gb g.2 v=true↔iE f i g.1 v)) (fun g=>b.insts.length - g.1) (0,L) aT aJ (⟨qm _,hLl,hLd⟩) ?_
   rintro ⟨j,L⟩ ⟨hj,hLl,hLd⟩
   try dsimp only at *
   refine ae<|ax Z Z<|z6<|ze<|zp Z (fun cj=>?_) (fun cj=>?_)
   ·have hj2:j<b.insts.length:=by simp at cj;omega
    obtain ⟨z,hz⟩:∃z,b.insts[j]=z:=⟨_,rfl⟩
    have hzg:b.insts[j]?=some z:=by rw[qj hj2,hz]
    have hzm:z∈b.insts:=hz▸qn hj2
    have hI:=gl (hIn z hzm)
    have hzl:=hb4 z hzm
    have hstep:=fun v:Int=>iE.step (f:=f) hget hzg v
    have hmq:=hes (gR z.op)
    obtain ⟨ps,hps⟩:∃ps,mg (gR z.op) es=ps:=⟨_,rfl⟩
    have hpl:ps.length≤2000000:=by
     have:=nU (f:=f) (q:=gR z.op) (fun b hb=>(hf.2.2.2.2 b hb).2.2.1) f.blocks.length (Nat.le_refl _)
     rw[←hps,hmq];omega
    have hcx:sJ f z i j=true↔∃m∈ps,qW f z i j m=true:=by rw[Bk,←hps,hmq]
    have hpm:∀m∈ps,∃(i' k':Nat) (b':aW) (c:bg),f.blocks[i']?=some b'∧b'.insts[k']?=some c∧m=((i':Int),(k':Int))∧0≤z.dst∧z.dst.toNat<f.vars.length:=fun m hm=>by
     rw[←hps,hmq] at hm
     obtain ⟨hq,i',k',b',c,g1,g2,g3,g4⟩:=la.1 hm
     have hso:z.op=2∨z.op=3∨z.op=4:=Classical.byContradiction fun hno=>by
      unfold gR at hq;rw[if_neg hno] at hq;unfold fT at hq;omega
     rcases hI.dst with ⟨d1,_⟩|⟨_,_,d3⟩
     ·rw[vG hso] at d1;cases d1
     ·have:=fw d3
      exact ⟨i',k',b',c,g1,g2,g4,this.1,by omega⟩
    refine zi<|ze<|zj<|ae<|aa Z<|z7 (db j Z5 Z8 Z Z Z hzg)<|ab Y8 Z8 Z Z<|zo (cs:=[.int .i64 0,.int .i64 0,.raw (.slice none 0 0),.int .i64 0]) Zx Z Z<|fun i12=>aq Z<|zf Z8 Z Z Z Z Z Z .head Z<|zc (yk (t:=12) Z .head)<|z6<|ae<|z7 (yb (v:=gE _) Z)<|aj jo Z Zi Z Z<|aw Zm Z<|zg (pe z.op) Z<|z7 (Gv.lookupF underlying89 underlying41 zeroValue57 Z Z ⟨_,.t2⟩)<|au Z6 Z<|aa Z<|z6 ?_
    rw[hps]
    refine zj<|ya (γ:=Nat × List Bool) [1,5,7,8,9,11,12,41,42,43,49,50,51,60,61] (fun g=>[(62,.int .i64 g.1)]) (fun g=>[(iv,.cells 71 (b9 f++[.fro 2 ((bP f).map eP.row),.own ck f.vars.length,.raw (.slice none 0 0)])),(ck,.grow 1 4 (cB g.2)),(0,l6 eP mb es)]) (fun g=>g.1≤ps.length∧g.2.length=f.vars.length∧∀v:Nat,v<f.vars.length→(gb g.2 v=true↔iE f i j v∨((v:Int)=z.dst∧∃m∈ps.take g.1,qW f z i j m=true))) (fun g=>ps.length - g.1) (0,L) aT aJ (⟨qm _,hLl,fun v hv=>by rw[hLd v hv];simp⟩) ?_
    rintro ⟨q,L⟩ ⟨hq,hLl,hLd⟩
    try dsimp only at *
    refine ae<|ax Z Z<|z6<|ze<|zp Z (fun cq=>?_) (fun cq=>?_)
    ·have hq2:q<ps.length:=by simp at cq;omega
     obtain ⟨m,hm⟩:∃m,ps[q]=m:=⟨_,rfl⟩
     obtain ⟨i',k',b',c,g1,g2,rfl,hz0,hz1⟩:=hpm m (hm▸qn hq2)
     have hcl:=(hf.2.2.2.2 b' (qt g1)).2.2.2.2 c (qt g2)
     have htk:∀P:lX→Prop,(∃m∈ps.take (q+1),P m)↔(∃m∈ps.take q,P m)∨P ((i':Int),(k':Int)):=fun P=>by
      rw[qk hq2,hm]
      simp only[List.mem_append,List.mem_singleton]
      constructor
      ·rintro ⟨m,h|rfl,hp⟩
       ·exact .inl ⟨m,h,hp⟩
       ·exact .inr hp
      ·rintro (⟨m,h,hp⟩|hp)
       ·exact ⟨m,.inl h,hp⟩
       ·exact ⟨_,.inr rfl,hp⟩
     have hhit:qW f z i j ((i':Int),(k':Int))=(decide (c.args=z.args)&&dD f ((i':Int),(k':Int)) i j):=by unfold qW;rw[kw g1 g2];rfl
     refine zi<|ze<|zj<|ae<|z7 (db q Z6 Zl Z Z Z (by rw[qj hq2,hm])) ?_
     refine ab isAgg74 Zl Z Z<|zo (cs:=[.int .i64 0,.int .i64 0]) zeroValue74 Z Z<|fun i14=>zf Zl Z Z Z Z Z Z .head Z<|zc (yk (t:=14) Z .head)<|z6<|ze<|zw (fun j=>false) (by kernel_rfl) Z (zn (.rest _))<|ao 0 Z (eh jt Z Zj Z Z)<|ao 1 Z (lA Zn Z)<|ao 2 Z (eh Ze Z jm Z Z)<|ao 3 Z (gy jq Z)<|ao 4 Z (db (i') jw Z2 Z Z Z g1)<|ao 5 Z (eh jy Z Y2 Z Z)<|ao 6 Z (lA Y9 Z)<|ao 7 Z (eh Ze Z jm Z Z)<|ao 8 Z (gy jq Z)<|ao 9 Z (db (k') Z5 Z8 Z Z Z g2)<|ao 10 Z (yl Y8 Z8 Z Z)<|aL 11 Z<|zo (cs:=[.int .i64 0,.int .i64 0,.raw (.slice none 0 0),.int .i64 0]) Zx Z Z<|fun i15=>z6<|aL 12 Z<|zf Z8 Z Z Z Z Z Z .head Z<|z6<|bO<|yh (yk (t:=15) Z .head)<|ze<|ym (γ:=Bool) [1,5,7,8,9,11,12,41,42,43,49,50,51,60,61,62] (fun u=>[(88,.bool u)]) (fun u=>[(iv,.cells 71 (b9 f++[.fro 2 ((bP f).map eP.row),.own ck f.vars.length,.raw (.slice none 0 0)])),(ck,.grow 1 4 (cB L)),(0,l6 eP mb es)]) (fun u=>u=qW f z i j ((i':Int),(k':Int))) ?_ (fun _ _ h=>h) ?_
     ·refine bD<|aj jo Z jr Z Z<|bd jv Z<|aj jo Z jr Z Z<|bd jv Z<|zg (me c.args z.args (by unfold ow;omega)) Z<|ay Z<|zx (s:=82) Z (fun c1=>?_) (fun c1=>?_)
      ·refine za Z Z c1<|z7 (j8 Z)<|za Z Z c1<|ab isAgg74 Zl Z Z<|za Z Z c1<|aa Z<|za Z Z c1<|aa Z<|za Z Z c1<|zg (hU f hE hn ((i':Int),(k':Int)) i j (mF eI (xe f)) .any) Z<|aM Z c1 Z<|z6 ?_
       exact ⟨_,⟨rfl,rfl,rfl,rfl,rfl,rfl,rfl,rfl,rfl,rfl,rfl,rfl,rfl,rfl,rfl,rfl,trivial⟩,aT,aJ,by rw[hhit,show decide (c.args=z.args)=true from c1];rfl⟩
      ·refine z8 Z Z c1<|z8 Z Z c1<|z8 Z Z c1<|z8 Z Z c1<|z8 Z Z c1<|aD Z c1 Z<|z6 ?_
       exact ⟨_,⟨rfl,rfl,rfl,rfl,rfl,rfl,rfl,rfl,rfl,rfl,rfl,rfl,rfl,rfl,rfl,rfl,trivial⟩,aT,aJ,by rw[hhit,show decide (c.args=z.args)=false from c1];rfl⟩
     ·rintro u hu
      subst hu
      refine zz Z (fun ch=>?_) (fun ch=>?_)
      ·refine zw (fun j=>Nat.beq j 7) (by kernel_rfl) Z (zn (.r (.r (.rest _))))<|ao 0 Z (j7 Z)<|ao 1 Z (yj Z)<|ao 2 Z (y0 Z7 Z sizeOf69 (by decide) Z Z)<|ao 3 Z (yd (c:=.own _ _) isAgg69 Z ⟨_,.head⟩ Z)<|ao 4 Z (eh jo Z jm Z Z)<|ao 5 Z (gy jq Z)<|ao 6 Z (yy (j:=z.dst.toNat) Zk Zr Z Z (by omega) ⟨_,.t1⟩ (by rw[aX];exact hLl) hz1)<|yu<|yz (i:=7) Z (by kernel_rfl) (by kernel_rfl)<|ai.storeB (j:=z.dst.toNat) Zr Z Z .t1 (by omega)<|z6<|yx (by kernel_rfl)<|bD<|aQ Z Z<|aa Z<|z6 ?_
       exact ⟨(q+1,L.set z.dst.toNat true),⟨rfl,rfl,rfl,rfl,rfl,rfl,rfl,rfl,rfl,rfl,rfl,rfl,rfl,rfl,rfl,trivial⟩,aT,aJ,⟨hq2,by rw[List.length_set];exact hLl,fun v hv=>by rw[Dx (by omega),hLd v hv,htk,ch];constructor;(rintro (h|h|h);exact .inr ⟨by omega,.inr rfl⟩;exact .inl h;exact .inr ⟨h.1,.inl h.2⟩);(rintro (h|⟨h1,h2⟩);exact .inr (.inl h);exact .inl (by omega))⟩,by dsimp only;omega⟩
      ·refine zi<|bD<|aQ Z Z<|aa Z<|z6 ?_
       exact ⟨(q+1,L),⟨rfl,rfl,rfl,rfl,rfl,rfl,rfl,rfl,rfl,rfl,rfl,rfl,rfl,rfl,rfl,trivial⟩,aT,aJ,⟨hq2,hLl,fun v hv=>by rw[hLd v hv,htk];simp[show qW f z i j ((i':Int),(k':Int))=false from ch]⟩,by dsimp only;omega⟩
    ·have hqn:q=ps.length:=by simp at cq;omega
     subst hqn
     refine y8<|bD<|aQ Z Z<|aa Z<|z6 ?_
     exact ⟨(j+1,L),nI,aT,aJ,⟨hj2,hLl,fun v hv=>by rw[hLd v hv,qo,hstep,hcx]⟩,by dsimp only;omega⟩
   ·have hjn:j=b.insts.length:=by simp at cj;omega
    subst hjn
    refine y8<|bD<|aQ Z Z<|aa Z<|z6 ?_
    exact ⟨(i+1,L),AY,aT,aJ,⟨hi2,hLl,fun v hv=>by rw[hLd v hv,iE.next hget]⟩,by dsimp only;omega⟩
  ·have hin:i=f.blocks.length:=by simp at ci;omega
   subst hin
   have hLe:=Dw honce hLl hLd
   subst hLe
   refine y8<|yh (aN.knowBC (off:=4) .t1 .head Z (nV f))<|ae<|z7 (j7 Z)<|z7 (f9 Z)<|aq Z<|z6<|zh<|dB.t2 (x:=.po _ _) (y:=.int _ _) Z Z ?_
   exact ⟨iv,rfl,⟨_,.keep (.drop (.refl _)),rfl⟩,trivial⟩
end
section
open Go.Proofs.Tryz
open Go.Proofs Go.Lib Go.Shelf Go.RowKit
variable {E:World}
set_option maxRecDepth 20000
theorem tW:bu 10=[1]:=by decide
theorem tX:bu 11=[1,1]:=by decide
theorem vI {f:ac} (h:bf f=true):∀b∈f.blocks,∀x∈b.insts,x.op=10∨x.op=11→∀v∈x.args,sG f v=1:=by
 intro b hb x hx hop v hv
 unfold bf at h
 rw[qu] at h
 have h1:=List.all_eq_true.1 h.2 b hb
 unfold rQ at h1
 simp only[qu] at h1
 have h2:=List.all_eq_true.1 h1.1.2 x hx
 unfold mf at h2
 rw[if_neg (by omega)] at h2
 rw[qu,qv] at h2
 have h3:d6 f v∈bu x.op:=by rw[←h2.1];exact List.mem_map_of_mem hv
 show d6 f v=1
 rcases hop with e|e<;>rw[e] at h3
 ·rw[tW] at h3;simpa using h3
 ·rw[tX] at h3;simpa using h3
theorem Ao {f:ac} (h:dZ f=true):lY f:=(pC f).1 (by unfold dZ at h;simp only[qu] at h;exact h.2.2.1)
theorem oQ {f:ac} (hf:small f) (h:(bf f&&dZ f)=true):jI f:=⟨hf,fk (An h).1,Ao (An h).2,vI (An h).1⟩
theorem CT {f:ac} (hS:cf f) {l:List aA} {v:Nat} (hv:v<f.vars.length) (hm:0≤(aZ f v).1) (ho:lY f):iX f (gb (gv f)) l v=iX f (qV f) l v:=by
 obtain ⟨i,b,h1,⟨p,h2,h3,h4⟩|⟨k,x,h2,h3,h4⟩⟩:=iY hm
 ·rw[nR (ho v hv).1 h1 h2 h3 h4,nR (ho v hv).1 h1 h2 h3 h4]
 ·rw[lH h1 h2 h4,lH h1 h2 h4]
  unfold k9
  rw[h3,Dv (by omega) (by omega)]
theorem xg {p:Prop} [Decidable p] (h:(!decide p)=true):¬p:=fun hp=>by rw[decide_eq_true hp] at h;cases h
theorem xh {p:Prop} [Decidable p] (h:(!decide p)=false):p:=Classical.byContradiction fun hp=>by rw[decide_eq_false hp] at h;cases h
def oR (f:ac) (v:Int):aA:=if bf f=true∧0≤v∧v<f.vars.length then gP f v else bw
theorem tY (f:ac) (hf:small f) (hL:aE E) (v:Int):aF prog E 13 [.agg (b9 f),.int .i64 v] (.agg (bk (oR f v))):=by
 have hvn:=hf.1
 have hp:=hf.2.1
 have hT:=kF (E:=E) f hf hL
 refine zk func13 Z (by decide) Z<|ae<|zy (cs:=_) Z Z Z<|zo (cs:=[.int .i64 0,.int .i64 0]) jk Z Z<|fun i4=>z6<|ze<|zj<|ze<|ym (γ:=Bool) [1,2,4] (fun u=>[(5,.bool u)]) (fun u=>[(i4,.cells 36 [.int .i64 0,.int .i64 0])]) (fun u=>u=!decide (bf f=true∧0≤v∧v<f.vars.length)) ?_ (fun _ _ h=>h) ?_
 ·refine bD<|ab jx js Z Z<|zg (hT) Z<|z7 (yw Z Z)<|ay Z<|zx (s:=9) Z (fun c1=>?_) (fun c1=>?_)
  ·refine z8 Z Z c1<|z8 Z Z c1<|aM Z c1 Z<|ay Z<|z8 Z Z Z<|z8 Z Z Z<|z8 Z Z Z<|z8 Z Z Z<|z8 Z Z Z<|aM Z Z Z<|ad Z<|z6 ?_
   exact ⟨_,bX,aT,aJ,by have h:bf f=false:=(by cases ht:bf f;rfl;rw[ht] at c1;simp at c1);simp[h]⟩
  ·have h1:bf f=true:=by cases ht:bf f;rw[ht] at c1;simp at c1;rfl
   refine za Z Z c1<|aa Z<|za Z Z c1<|ax Z Z<|aD Z c1 Z<|ay Z<|zx (s:=13) Z (fun c2=>?_) (fun c2=>?_)
   ·refine z8 Z Z c2<|z8 Z Z c2<|z8 Z Z c2<|z8 Z Z c2<|z8 Z Z c2<|aM Z c2 Z<|ad Z<|z6 ?_
    exact ⟨_,bX,aT,aJ,by have h:v<0:=(by simpa using c2);simp;omega⟩
   ·refine za Z Z c2<|aa Z<|za Z Z c2<|aj jt Z Y4 Z Z<|za Z Z c2<|bd Yb Z<|za Z Z c2<|au Zd Z<|za Z Z c2<|z7 (qa Z Z)<|aD Z c2 Z<|ad Z<|z6 ?_
    exact ⟨_,bX,aT,aJ,by have h:¬v<0:=(by simpa using c2);rw[Bool.eq_iff_iff];simp[h1];omega⟩
 ·rintro u hu
  subst hu
  refine zz Z (fun c=>?_) (fun c=>?_)
  ·refine ae<|zg (fD) Z<|zf jf Z Z Z Z Z Z .head Z<|z6<|zh<|yc Z ⟨_,.head⟩ jg jf Z ?_
   rw[oR,if_neg (xg c)];try rfl
  ·have hc:bf f=true∧0≤v∧v<f.vars.length:=xh c
   rw[oR,if_pos hc,gP]
   have hvl:v.toNat<f.vars.length:=by omega
   have hty:sG f v=f.vars[v.toNat].ty:=by unfold sG;rw[qj hvl];rfl
   refine ae<|aa Z<|aj jt Z jr Z Z<|bd jv Z<|au jh Z<|ax Z Z<|ad Z<|z6<|zp Z (fun c2=>?_) (fun c2=>?_)
   ·refine ae<|aj jt Z Y4 Z Z<|bd Yb Z<|aa Z<|z7 (db v.toNat Zd sizeOf40 Z Z (by omega) (qj hvl))<|aj Y3 Z sizeOf38 Z Z<|aw isAgg38 Z<|zg (wW _) Z<|zf jf Z Z Z Z Z Z .head Z<|z6<|zh<|yc Z ⟨_,.head⟩ jg jf Z ?_
    rw[if_pos c2,hty];try rfl
   ·refine zi<|ae<|zg (EZ _) Z<|zf jf Z Z Z Z Z Z .head Z<|z6<|zh<|yc Z ⟨_,.head⟩ jg jf Z ?_
    rw[if_neg c2];try rfl
end
section
open Go.Proofs.Tryz
open Go.Proofs
theorem HG {I:G} {F:List (Nat × Obj)} {E w:World} {i k m:Nat} {T:TypeId} {rows:List (List AV)} (hk:∀r∈rows,r.length=k) (hk0:0<k) (hm:rows.length=m) (h:fI I [(i,.grow k T rows.flatten)] F E w) :
  ∃J L,I.le J∧bH I [(i,.grow k T rows.flatten)] L∧SL I.k (L++F) E w∧(∀y∈L,J.k y.1=some y.2)∧fI J [] F E w∧∀v,br I (.own i m) v→br J (.fro k rows) v:=by
 obtain ⟨ht,L,hL,hS⟩:=h
 have hL0:=hL
 obtain ⟨A,B,hp,⟨b,c,n,vs,e1,hvs,hvc,hown⟩,hB⟩:=hL
 have hB:B=[]:=hB
 simp only at e1
 rw[hB,List.append_nil] at hp
 subst hp
 have hflat:rows.flatten.length=rows.length*k:=by
  clear hvs hm hL0
  induction rows with
  |nil=>simp
  |cons r rows ih=>simp only[List.flatten_cons,qp,List.length_cons,ih (fun r h=>hk r (by simp[h])),hk r (by simp),Nat.add_mul];omega
 have hnm:n=m:=by
  have h5:=hown.1
  have h6:=hvs.length
  have:n*k=m*k:=by rw[←hm];omega
  exact Nat.eq_of_mul_eq_mul_right hk0 this
 subst hnm
 obtain ⟨h5,h6,h7⟩:=hown
 rcases h7 with ⟨ea,rfl,rfl⟩|⟨b',junk,ea,rfl,hj⟩
 ·refine ⟨I,[],.refl _,hL0,hS,fun y hy=>(by cases hy),⟨ht,[],rfl,by simpa using hS⟩,?_⟩
  rintro v ⟨b2,c2,e2,rfl⟩
  rw[e1] at e2
  simp only[Option.some.injEq,Prod.mk.injEq] at e2
  obtain ⟨rfl,rfl⟩:=e2
  have h0:rows=[]:=List.eq_nil_of_length_eq_zero (by omega)
  subst h0
  exact ⟨adr b,n,0,rfl,hm.symm,h6,fun _=>rfl,trivial⟩
 ·cases b with
  |none=>simp[adr] at ea
  |some b=>
   simp[adr] at ea
   subst ea
   obtain ⟨hl,hS3⟩:=SL.freeze (by simpa using hS:SL I.k ((b,.cells (vs++junk).toArray T (0,0))::F) E w)
   let J:G:=⟨I.k.put b (.cells (vs++junk).toArray T (0,0)),I.h⟩
   have hle:I.le J:=⟨hl,fun _ _ h=>h⟩
   have hb:J.k b=some (.cells (vs++junk).toArray T (0,0)):=aC.put_same _ _ _
   refine ⟨J,_,hle,hL0,hS,fun y hy=>(by rw[List.mem_singleton.1 hy];exact hb),⟨ht,[],Z,by simpa using hS3⟩,?_⟩
   rintro v ⟨b2,c2,e2,rfl⟩
   rw[e1] at e2
   simp only[Option.some.injEq,Prod.mk.injEq] at e2
   obtain ⟨rfl,rfl⟩:=e2
   refine ⟨adr (some b),n,c,Z,hm.symm,h6,fun h=>by simp[adr] at h,RepR.of_flat hb rows vs 0 hk (RepL.mono hle _ _ hvs) fun i u hu=>?_⟩
   rw[Nat.zero_mul,Nat.zero_add,List.getElem?_toArray,List.getElem?_append_left (List.getElem?_eq_some_iff.1 hu).1]
   exact hu
theorem aU.lend {P:Program} {E:World} {f:FuncId} {ars ars':List AV} {x:AV} {i m k:Nat} {T:TypeId} {rows:List (List AV)} (hk:∀r∈rows,r.length=k) (hk0:0<k) (hm:rows.length=m)
  (has:∀I J:G,I.le J→(∀v,br I (.own i m) v→br J (.fro k rows) v)→∀vs,RepL I ars vs→RepL J ars' vs) (hx:∀(I J:G) v,br J x v→br I x v)
  (h:aF P E f ars' x):aU P E f ars [(i,.grow k T rows.flatten)] fun y O=>y=x∧O=[(i,.grow k T rows.flatten)]:=fun I F w vs h1 h2=>by
 obtain ⟨J,L,hle,hL,hS,hf,hJ,hv⟩:=HG hk hk0 hm h2
 refine (h J F w vs (has I J hle hv vs h1) hJ).mono fun v w' ⟨J2,y,O',a,b,c,d⟩=>?_
 have d:y=x:=d
 subst d
 obtain ⟨_,L',_,hS'⟩:=c
 refine ⟨I,y,_,.refl _,hx I J2 v b,⟨h2.1,L,hL,?_⟩,Z,Z⟩
 refine ⟨hS'.os,hS'.output,hS'.tape,fun b o hb=>hS'.pers b o (a.k b o (hle.k b o hb)),fun z hz=>?_,hS.nodup,hS.apart,hS.base,hS.flat,hS.oflat⟩
 rcases List.mem_append.1 hz with hz|hz
 ·exact hS'.pers _ _ (a.k _ _ (hf z hz))
 ·exact hS'.own z (List.mem_append_right _ hz)
theorem Er (l:List aA):(l.map bk).flatten=lC l:=by
 unfold lC dn.av;rw[List.flatMap_def];rfl
theorem CU {I J:G} {r:aA} {v:Value} (h:br J (.agg (bk r)) v):br I (.agg (bk r)) v:=by
 obtain ⟨vs,rfl,a,_,rfl,h1,b,_,rfl,h2,h3⟩:=h
 exact ⟨_,rfl,a,_,rfl,h1,b,_,rfl,h2,h3⟩
end
section
open Go.Proofs.Tryz
open Go.Proofs Go.Lib Go.Shelf Go.RowKit
variable {E:World}
set_option maxRecDepth 20000
theorem aU.now {P:Program} {E:World} {f:FuncId} {ars:List AV} {O O0:OL} {x:AV} (h:aU P E f ars O fun y O'=>y=x∧Left O' O0):aU P E f ars O fun y O'=>y=x∧O'=O0:=
 (aU.exact (γ:=Unit) (x:=fun _=>x) (M:=fun _=>O0) (p:=fun _=>True) (h.mono fun _ _ h=>⟨(),h.1,h.2,trivial⟩)).mono fun _ _ ⟨_,h1,h2,_⟩=>⟨h1,h2⟩
theorem m9 {f:ac} (hF:jI f):wd f:=by
 rintro ⟨v,p⟩ hq
 obtain ⟨b,hb,hc⟩:=lI.1 hq
 obtain ⟨i,hi⟩:=List.mem_iff_getElem?.1 hb
 obtain ⟨hPh,hIn,_⟩:=hF.shaped.2.2.2.2.2 b hb
 dsimp only
 rcases hc with ⟨rfl,q,hqb,rfl⟩|⟨rfl,h0,x,hx,rfl⟩
 ·obtain ⟨h0,h1⟩:=fw (hPh q hqb).1
  have hm:((i:Int),(-1:Int))∈bn f q.dst:=gh.2 ⟨i,b,hi,jR.2 (.inl ⟨q,hqb,rfl,rfl⟩)⟩
  have ho:=(hF.once q.dst.toNat (by omega)).1
  rw[Int.toNat_of_nonneg h0] at ho
  rw[nQ ho hm]
  exact ⟨h0,h1,by dsimp only;omega,by simp⟩
 ·have h1:x.dst<f.vars.length:=by
   rcases (gl (hIn x hx)).dst with ⟨_,h⟩|⟨_,_,h⟩
   ·omega
   ·exact (fw h).2
  obtain ⟨k,hk⟩:=List.mem_iff_getElem?.1 hx
  have hm:((i:Int),(k:Int))∈bn f x.dst:=gh.2 ⟨i,b,hi,jR.2 (.inr ⟨k,x,hk,rfl,rfl⟩)⟩
  have ho:=(hF.once x.dst.toNat (by omega)).1
  rw[Int.toNat_of_nonneg h0] at ho
  rw[nQ ho hm]
  exact ⟨h0,h1,by dsimp only;omega,by dsimp only;constructor;(intro h;cases h);(intro h;omega)⟩
theorem tZ {f:ac} (hF:jI f) (hN:∀b∈f.blocks,∀x∈b.insts,aK x.num):nP f where
 args:=fun b hb x hx v hv=>(fw ((gl ((hF.shaped.2.2.2.2.2 b hb).2.1 x hx)).args v hv)).1
 pargs:=fun b hb p hp v hv=>by
  obtain ⟨_,_,_,hpa,_⟩:=(hF.shaped.2.2.2.2.2 b hb).1 p hp
  exact (fw (List.all_eq_true.1 hpa v hv)).1
 bool:=hF.bool
 two:=fun b hb x hx=>by
  have:=(gl ((hF.shaped.2.2.2.2.2 b hb).2.1 x hx)).len
  constructor
  ·intro h;rw[this,h,tW];decide
  ·intro h;rw[this,h,tX];decide
 num:=hN
theorem Ap {I J:G} {i m:Nat} {X:AV} (hle:I.le J) (hv:∀v,br I (.own i m) v→br J X v) (f:ac) (chk:List Bool) {v:Value} (h:br I (f8 f chk (.own i m)) v):br J (f8 f chk X) v:=by
 obtain ⟨b,off,vs,e,⟨v1,_,rfl,r1,v2,_,rfl,r2,v3,_,rfl,r3,v4,_,rfl,r4,v5,_,rfl,r5,v6,_,rfl,r6,rfl⟩,h2⟩:=h
 exact ⟨b,off,_,e,⟨v1,_,rfl,r1.mono hle,v2,_,rfl,r2.mono hle,v3,_,rfl,r3.mono hle,v4,_,rfl,r4.mono hle,v5,_,rfl,r5.mono hle,v6,_,rfl,hv _ r6,rfl⟩,fun j u hj=>(h2 j u hj).mono hle.k⟩
theorem Aq (f:ac) (hF:jI f) (l:List aA) (hl:dj f.vars.length l) (v:Nat) (hv:v<f.vars.length) (hm:0≤(aZ f v).1) (phi:Bool) (how:Int) :
  aF prog E 63 [f8 f (gv f) (.fro 2 (l.map bk)),.int .i64 v,.bool phi,.int .i64 how] (.agg (bk (fU f l v phi how))):=by
 have hS:=hF.shaped
 have hvr:=aU.ofEmpty (vH (E:=E) f hF l (gv f) (nV f) (.fro 2 (l.map bk)) (i:=0) (HL:=ru) (fun ha=>Gl f hS (gv f) l hl.1 0 ru ha) hl.2 v hv hm)
 rw[CT hS hv hm hF.once] at hvr
 have hll:=hl.1
 have hty:sG f v=f.vars[v].ty:=by unfold sG;rw[show ((v:Int).toNat)=v from rfl,qj hv];rfl
 have hlv:l[v]?=some (lv l v):=vD (l:=l) (a:=(v:Int)) (by omega)
 refine zk func63 Z (by decide) Z<|ae<|zo (cs:=[.int .i64 0,.int .i64 0]) jk Z Z<|fun i8=>z6<|ze<|ym (γ:=Nat × Nat) [0,1,2,3,8] (fun z=>[(9,.po z.1 0),(10,.po z.2 0)]) (fun z=>[(z.1,.cells 36 (bk (lv l v))),(z.2,.cells 36 (bk (rF f l v))),(i8,.cells 36 [.int .i64 0,.int .i64 0])]) (fun z=>True) ?_ (fun _ _ h=>h) ?_
 ·refine zw (fun j=>false) (by kernel_rfl) Z (zn (.rest _))<|ao 0 Z (j8 Z)<|ao 1 Z (yr Z)<|ao 2 Z (eh Z7 Z Yd Z Z)<|ao 3 Z (lA isAgg32 Z)<|ao 4 Z (fC Z)<|ao 5 Z (db v Z3 jf Z Z Z hlv)<|ao 6 Z (yl jg jf Z Z)<|ao 7 Z (j8 Z)<|ao 8 Z (fC Z)<|qh (i:=9) (j:=10) (m:=11) Z Z Z (by kernel_rfl) ?_ ?_ ?_
  ·refine zg (hvr) Z<|z6<|yg (i:=10) (j:=11) Z Z (by kernel_rfl) ?_ ?_
   ·refine zo (cs:=[.int .i64 0,.int .i64 0]) jk Z Z<|fun i9=>z6<|aL 11 Z<|zo (cs:=[.int .i64 0,.int .i64 0]) jk Z Z<|fun i10=>z6<|aL 12 Z<|zf jf Z Z Z Z Z Z .t1 Z<|z6<|aL 13 Z<|zf jf Z Z Z Z Z Z .head Z<|zc (zb (zd .t2))<|zc (zb (zd .t1))<|zc (zb (zd .t2))<|z6<|bO ?_
    exact ⟨(i9,i10),oV,cU,aJ,trivial⟩
   ·refine zo (cs:=[.int .i64 0,.int .i64 0]) jk Z Z<|fun i10=>z6<|aL 10 Z<|zo (cs:=[.int .i64 0,.int .i64 0]) jk Z Z<|fun i9=>z6<|aL 12 Z<|zf jf Z Z Z Z Z Z .head Z<|z6<|aL 13 Z<|zf jf Z Z Z Z Z Z .t1 Z<|z6<|bO ?_
    exact ⟨(i9,i10),oV,cU,aJ,trivial⟩
  ·refine zo (cs:=[.int .i64 0,.int .i64 0]) jk Z Z<|fun i9=>z6<|yg (i:=9) (j:=11) Z Z (by kernel_rfl) ?_ ?_
   ·refine zg (hvr) Z<|z6<|aL 11 Z<|zo (cs:=[.int .i64 0,.int .i64 0]) jk Z Z<|fun i10=>z6<|aL 12 Z<|zf jf Z Z Z Z Z Z .t1 Z<|z6<|aL 13 Z<|zf jf Z Z Z Z Z Z .head Z<|zc (zb (zd .t2))<|zc (zb (zd .t1))<|zc (zb (zd .t2))<|z6<|bO ?_
    exact ⟨(i9,i10),oV,cU,aJ,trivial⟩
   ·refine zo (cs:=[.int .i64 0,.int .i64 0]) jk Z Z<|fun i10=>z6<|aL 9 Z<|zg (hvr) Z<|z6<|aL 12 Z<|zf jf Z Z Z Z Z Z .t1 Z<|z6<|aL 13 Z<|zf jf Z Z Z Z Z Z .head Z<|zc (zb (zd .t2))<|zc (zb (zd .t1))<|zc (zb (zd .t2))<|z6<|bO ?_
    exact ⟨(i9,i10),oV,cU,aJ,trivial⟩
  ·refine zo (cs:=[.int .i64 0,.int .i64 0]) jk Z Z<|fun i10=>z6<|yg (i:=9) (j:=10) Z Z (by kernel_rfl) ?_ ?_
   ·refine zg (hvr) Z<|z6<|aL 10 Z<|zo (cs:=[.int .i64 0,.int .i64 0]) jk Z Z<|fun i9=>z6<|aL 12 Z<|zf jf Z Z Z Z Z Z .head Z<|z6<|aL 13 Z<|zf jf Z Z Z Z Z Z .t1 Z<|z6<|bO ?_
    exact ⟨(i9,i10),oV,cU,aJ,trivial⟩
   ·refine zo (cs:=[.int .i64 0,.int .i64 0]) jk Z Z<|fun i9=>z6<|aL 9 Z<|zg (hvr) Z<|z6<|aL 12 Z<|zf jf Z Z Z Z Z Z .head Z<|z6<|aL 13 Z<|zf jf Z Z Z Z Z Z .t1 Z<|z6<|bO ?_
    exact ⟨(i9,i10),oV,cU,aJ,trivial⟩
 ·rintro ⟨i9,i10⟩ _
  refine ze<|zj<|ae<|aa Z<|ak Z Z<|ad Z<|z6<|zp Z (fun c2=>?_) (fun c2=>?_)
  ·refine ae<|z7 (q0 jg jf Z ⟨_,.head⟩ Z)<|z7 (q0 jg jf Z ⟨_,.t1⟩ Z)<|zg (lm _ _) Z<|zf jf Z Z Z Z Z Z .t2 Z<|z6<|zh<|yc Z ⟨_,.t2⟩ jg jf Z ?_
   rw[fU,if_pos c2];rfl
  ·refine ze<|ym (γ:=Bool) [0,1,8,9,10] (fun u=>[(27,.bool u)]) (fun u=>[(i9,.cells 36 (bk (lv l v))),(i10,.cells 36 (bk (rF f l v))),(i8,.cells 36 [.int .i64 0,.int .i64 0])]) (fun u=>u=decide (how=1∧phi=true)) ?_ (fun _ _ h=>h) ?_
   ·refine bD<|aa Z<|ak Z Z<|ay Z<|zx (s:=30) Z (fun c1=>?_) (fun c1=>?_)
    ·refine za Z Z c1<|ay Z<|aM Z c1 Z<|ad Z<|z6 ?_
     exact ⟨_,oV,aT,aJ,by simp_all⟩
    ·refine z8 Z Z c1<|aD Z c1 Z<|ad Z<|z6 ?_
     exact ⟨_,oV,aT,aJ,by simp_all⟩
   ·rintro u hu
    subst hu
    refine zp Z (fun c1=>?_) (fun c1=>?_)
    ·refine ze<|zw (fun j=>Nat.beq j 12) (by kernel_rfl) Z (zn (.r (.r (.rest _))))<|ao 0 Z (j8 Z)<|ao 1 Z (yr Z)<|ao 2 Z (eh Z7 Z js Z Z)<|ao 3 Z (eh jt Z Y4 Z Z)<|ao 4 Z (lA Yb Z)<|ao 5 Z (fC Z)<|ao 6 Z (db v Zd sizeOf40 Z Z Z (qj hv))<|ao 7 Z (eh Y3 Z sizeOf38 Z Z)<|ao 8 Z (gy isAgg38 Z)<|ao 9 Z (q0 jg jf Z ⟨_,.head⟩ Z)<|ao 10 Z (q0 jg jf Z ⟨_,.t1⟩ Z)<|aL 11 Z<|zg (Gh f.vars[v].ty (lv l v) (rF f l v)) Z<|z6<|yu<|yz (i:=12) Z (by kernel_rfl) (by kernel_rfl)<|zf jf Z Z Z Z Z Z .t2 Z<|z6<|yx (by kernel_rfl)<|zh<|yc Z ⟨_,.t2⟩ jg jf Z ?_
     rw[fU,if_neg c2,if_pos c1,hty];rfl
    ·refine zi<|ae<|z7 (q0 jg jf Z ⟨_,.head⟩ Z)<|z7 (q0 jg jf Z ⟨_,.t1⟩ Z)<|zg (wX _ _) Z<|zf jf Z Z Z Z Z Z .t2 Z<|z6<|zh<|yc Z ⟨_,.t2⟩ jg jf Z ?_
     rw[fU,if_neg c2,if_neg c1];rfl
theorem vJ (f:ac) (hF:jI f) (l:List aA) (hl:dj f.vars.length l) (i:Nat) (T:TypeId) (v:Nat) (hv:v<f.vars.length) (hm:0≤(aZ f v).1) (phi:Bool) (how:Int) :
  aU prog E 63 [f8 f (gv f) (.own i f.vars.length),.int .i64 v,.bool phi,.int .i64 how] [(i,.grow 2 T (lC l))] (iB i (.grow 2 T (lC l)) (.agg (bk (fU f l v phi how)))):=by
 rw[←Er]
 refine aU.lend (m:=f.vars.length) (fun r hr=>by obtain ⟨z,_,rfl⟩:=List.mem_map.1 hr;rfl) (by decide) (by rw[qq];exact hl.1) (fun I J hle hv vs h=>?_) (fun I J v h=>CU h) (Aq f hF l hl v hv hm phi how)
 obtain ⟨v1,us,rfl,r1,r2⟩:=h
 exact ⟨v1,us,rfl,Ap hle hv f (gv f) r1,r2.mono hle⟩
theorem Ar (f:ac) (hF:jI f) (l:List aA) (hl:dj f.vars.length l) (i:Nat) (T:TypeId) (v:Nat) (hv:v<f.vars.length) (hm:0≤(aZ f v).1) (phi:Bool) (how:Int) :
  aU prog E 33 [f8 f (gv f) (.own i f.vars.length),.int .i64 v,.bool phi,.int .i64 how] [(i,.grow 2 T (lC l))]
   (iB i (.grow 2 T (lC (l.set v (fU f l v phi how)))) (.bool (!decide (fU f l v phi how=lv l v)))):=by
 obtain ⟨r,hr⟩:∃r,fU f l v phi how=r:=⟨_,rfl⟩
 have hnx:=vJ (E:=E) f hF l hl i T v hv hm phi how
 rw[hr] at hnx ⊢
 have hll:=hl.1
 have hlv:l[v]?=some (lv l v):=vD (l:=l) (a:=(v:Int)) (by omega)
 refine aU.now<|zk func33 Z (by decide) Z<|ae<|ad Z<|z6<|ae<|z7 (j8 Z)<|aa Z<|ay Z<|aa Z<|zq Z (zn (.l (.rest _))) (hnx) ?_
 rintro r15 O15 ⟨rfl,rfl⟩
 refine zo (cs:=[.int .i64 0,.int .i64 0]) jk Z Z<|fun i9=>zf jf Z Z Z Z Z Z .head Z<|z6<|ze<|zw (fun j=>false) (by kernel_rfl) Z (zn (.r (.r (.rest _))))<|ao 0 Z (q0 jg jf Z ⟨_,.head⟩ Z)<|ao 1 Z (j8 Z)<|ao 2 Z (yr Z)<|ao 3 Z (eh Z7 Z Yd Z Z)<|ao 4 Z (q7 (c:=.own _ _) isAgg32 Z)<|ao 5 Z (fC Z)<|ao 6 Z (Gv.idxR (j:=v) Z3 jf Z Z Z ⟨_,.t1⟩ hll hv)<|ao 7 Z (Gv.loadR (j:=v) jg jf Z ⟨_,.t1⟩ hlv)<|ao 8 Z (Gv.eqlP (xs:=[.int _ _,.int _ _]) (ys:=[.int _ _,.int _ _]) (by kernel_rfl) Z Z (fun w=>eL _ _ _ _ w))<|ao 9 Z (sA Z)<|bO<|ze<|zw (fun j=>Nat.beq j 7) (by kernel_rfl) Z (zn (.r (.r (.rest _))))<|ao 0 Z (j8 Z)<|ao 1 Z (yr Z)<|ao 2 Z (eh Z7 Z Yd Z Z)<|ao 3 Z (q7 (c:=.own _ _) isAgg32 Z)<|ao 4 Z (fC Z)<|ao 5 Z (q0 jg jf Z ⟨_,.head⟩ Z)<|ao 6 Z (Gv.idxR (j:=v) Z3 jf Z Z Z ⟨_,.t1⟩ hll hv)<|yu<|yz (i:=7) Z (by kernel_rfl) (by kernel_rfl)<|ai.storeR (j:=v) jf Z Z .t1 (by rw[hll];exact hv)<|z6<|yx (by kernel_rfl)<|ae<|ay Z<|z7 (yo Z)<|ad Z<|z6<|zh<|zm (x:=.bool _) Z ?_
 exact ⟨by rw[CR],.d1⟩
end
section
open Go.Proofs.Tryz
open Go.Proofs Go.Lib Go.Shelf Go.RowKit
theorem Gq:dt prog 32 36 1 2 [.int .i64 0,.int .i64 0]:=⟨_,Z3,jf,jk,by decide,by decide,by kernel_rfl⟩
variable {E:World}
set_option maxRecDepth 20000
theorem oS (f:ac) (hF:jI f) (s:List aA × Bool) (hl:dj f.vars.length s.1) (i:Nat) (T:TypeId) (q:Int × Bool) (hq:q∈dS f) (how:Int) :
  aU prog E 33 [f8 f (gv f) (.own i f.vars.length),.int .i64 q.1,.bool q.2,.int .i64 how] [(i,.grow 2 T (lC s.1))]
   (iB i (.grow 2 T (lC (iF f how s q).1)) (.bool (!decide (fU f s.1 q.1 q.2 how=lv s.1 q.1)))):=by
 obtain ⟨h0,h1,h2,_⟩:=m9 hF q hq
 have hvv:((q.1.toNat:Nat):Int)=q.1:=Int.toNat_of_nonneg h0
 have:=Ar (E:=E) f hF s.1 hl i T q.1.toNat (by omega) (by rw[hvv];exact h2) q.2 how
 rw[hvv] at this
 exact this
theorem CV {f:ac} {b:aW} (hb:b∈f.blocks) {p:dY} (hp:p∈b.phis):(p.dst,true)∈dS f:=lI.2 ⟨b,hb,.inl ⟨rfl,p,hp,rfl⟩⟩
theorem As {f:ac} {b:aW} (hb:b∈f.blocks) {x:bg} (hx:x∈b.insts) (h0:0≤x.dst):(x.dst,false)∈dS f:=lI.2 ⟨b,hb,.inr ⟨rfl,h0,x,hx,rfl⟩⟩
theorem CW {f:ac} (hR:em f.vars.length (rF f) (cD f)) (how:Int) {s:List aA × Bool} (h:dj f.vars.length s.1) {q:Int × Bool} (hq:q∈dS f):dj f.vars.length (iF f how s q).1:=
 Bl hR how [q] s (fun x hx=>by rw[List.mem_singleton.1 hx];exact hq) h
set_option maxHeartbeats 4000000 in
theorem mr (f:ac) (hF:jI f) (hR:em f.vars.length (rF f) (cD f)) (l0:List aA) (hl0:dj f.vars.length l0) (i:Nat) (T:TypeId) (how:Int) :
  aU prog E 14 [f8 f (gv f) (.own i f.vars.length),.int .i64 how] [(i,.grow 2 T (lC l0))]
   (iB i (.grow 2 T (lC (gD f how (dS f) (l0,false)).1)) (.bool (gD f how (dS f) (l0,false)).2)):=by
 have hf:=hF.small
 have hn:=hf.2.2.1
 obtain ⟨z,hz⟩:∃z,gD f how (dS f) (l0,false)=z:=⟨_,rfl⟩
 rw[hz]
 refine aU.now<|zk func14 Z (by decide) Z<|ae<|ad Z<|z6<|ae<|ad Z<|z6<|ze<|ae<|z7 (j8 Z)<|z7 (yr Z)<|aj Z7 Z js Z Z<|aj jt Z Zj Z Z<|bd Zn Z<|au jw Z<|aa Z<|z6<|zj<|ya (γ:=Nat × List aA × Bool) [0,1,16,17] (fun g=>[(18,.int .i64 g.1),(5,.bool g.2.2)]) (fun g=>[(i,.grow 2 T (lC g.2.1))]) (fun g=>g.1≤f.blocks.length∧g.2=gD f how (jc f g.1) (l0,false)∧dj f.vars.length g.2.1) (fun g=>f.blocks.length - g.1) (0,l0,false) cU aJ (⟨qm _,Z,hl0⟩) ?_
 rintro ⟨k,l,c⟩ ⟨hk,hs,hl⟩
 try dsimp only at *
 refine ae<|ax Z Z<|z6<|ze<|zp Z (fun ck=>?_) (fun ck=>?_)
 ·have hk2:k<f.blocks.length:=by simp at ck;omega
  obtain ⟨b,hbk⟩:∃b,f.blocks[k]=b:=⟨_,rfl⟩
  have hget:f.blocks[k]?=some b:=by rw[qj hk2,hbk]
  have hmem:b∈f.blocks:=hbk▸qn hk2
  obtain ⟨hb0,hb1,hb2,hb3,hb4⟩:=hf.2.2.2.2 b hmem
  refine zi<|ze<|zj<|ae<|z7 (db k jw Z2 Z Z Z hget)<|ab Y6 Z2 Z Z<|zo (cs:=[.str ⟨#[]⟩,.raw (.slice none 0 0),.raw (.slice none 0 0),.int .i64 0,.int .i64 0,.int .i64 0,.int .i64 0]) Zf Z Z<|fun i7=>zf Z2 Z Z Z Z Z Z .head Z<|zc (yk (t:=7) Z .head)<|z6<|ze<|ae<|aj jy Z Yc Z Z<|bd isAgg49 Z<|au Zc Z<|aa Z<|z6<|zj<|ya (γ:=Nat × List aA × Bool) [0,1,7,16,17,18,23,24] (fun g=>[(25,.int .i64 g.1),(5,.bool g.2.2)]) (fun g=>[(i,.grow 2 T (lC g.2.1))]) (fun g=>g.1≤b.phis.length∧g.2=gD f how (jc f k++(b.phis.take g.1).map fun p=>((p.dst,true):Int × Bool)) (l0,false)∧dj f.vars.length g.2.1) (fun g=>b.phis.length - g.1) (0,l,c) cU aJ (⟨qm _,by rw[List.take_zero,List.map_nil,List.append_nil];exact hs,hl⟩) ?_
  rintro ⟨j,l,c⟩ ⟨hj,hs,hl⟩
  try dsimp only at *
  refine ae<|ax Z Z<|z6<|ze<|zp Z (fun cj=>?_) (fun cj=>?_)
  ·have hj2:j<b.phis.length:=by simp at cj;omega
   obtain ⟨p,hp⟩:∃p,b.phis[j]=p:=⟨_,rfl⟩
   have hq:=CV hmem (hp▸qn hj2)
   refine zi<|ze<|zj<|ae<|z7 (db j Zc Zg Z Z Z (by rw[qj hj2,hp])) ?_
   refine ab isAgg63 Zg Z Z<|zo (cs:=[.int .i64 0,.raw (.slice none 0 0),.raw (.slice none 0 0)]) zeroValue63 Z Z<|fun i9=>zf Zg Z Z Z Z Z Z .head Z<|zc (yk (t:=9) Z .head)<|z6<|ym (γ:=Bool) [0,1,7,16,17,18,23,24,25] (fun u=>[(5,.bool u)]) (fun u=>[(i,.grow 2 T (lC (iF f how (l,c) (p.dst,true)).1))]) (fun u=>u=(iF f how (l,c) (p.dst,true)).2) ?_ (fun _ _ h=>h) ?_
   ·refine bD<|z7 (j8 Z)<|aj Za Z jm Z Z<|aw jq Z<|aa Z<|zq Z (zn (.l (.rest _))) (oS f hF (l,c) hl i T (p.dst,true) hq how) ?_
    rintro r33 O33 ⟨rfl,rfl⟩
    refine ay Z<|zx (s:=34) Z (fun c1=>?_) (fun c1=>?_)
    ·refine z8 Z Z c1<|aM Z c1 Z<|ad Z<|z6 ?_
     exact ⟨_,⟨rfl,rfl,rfl,rfl,rfl,rfl,rfl,rfl,rfl,trivial⟩,aT,aJ,by unfold iF;simp_all⟩
    ·refine za Z Z c1<|ay Z<|aD Z c1 Z<|ad Z<|z6 ?_
     exact ⟨_,⟨rfl,rfl,rfl,rfl,rfl,rfl,rfl,rfl,rfl,trivial⟩,aT,aJ,by unfold iF;simp_all⟩
   ·rintro u hu
    subst hu
    refine bD<|aQ Z Z<|aa Z<|z6 ?_
    exact ⟨(j+1,iF f how (l,c) (p.dst,true)),yE,cU,aJ,⟨hj2,by rw[sO hj2,←ql,pJ,←hs,hp],CW hR how hl hq⟩,by dsimp only;omega⟩
  ·have hjn:j=b.phis.length:=by simp at cj;omega
   subst hjn
   rw[qo] at hs
   refine y8<|ae<|aj jy Z Y2 Z Z<|bd Y9 Z<|au Z5 Z<|aa Z<|z6<|zj<|ya (γ:=Nat × List aA × Bool) [0,1,16,17,18,39,40] (fun g=>[(41,.int .i64 g.1),(5,.bool g.2.2)]) (fun g=>[(i,.grow 2 T (lC g.2.1))]) (fun g=>g.1≤b.insts.length∧g.2=gD f how (jc f k++(nS b++iZ (b.insts.take g.1))) (l0,false)∧dj f.vars.length g.2.1) (fun g=>b.insts.length - g.1) (0,l,c) cU aJ (⟨qm _,by rw[List.take_zero,show iZ []=[] from rfl,List.append_nil];exact hs,hl⟩) ?_
   rintro ⟨m,l,c⟩ ⟨hm,hs,hl⟩
   try dsimp only at *
   refine ae<|ax Z Z<|z6<|ze<|zp Z (fun cm=>?_) (fun cm=>?_)
   ·have hm2:m<b.insts.length:=by simp at cm;omega
    obtain ⟨x,hx⟩:∃x,b.insts[m]=x:=⟨_,rfl⟩
    have hsn:=sP hm2
    rw[hx] at hsn
    refine zi<|ze<|zj<|ae<|z7 (db m Z5 Z8 Z Z Z (by rw[qj hm2,hx])) ?_
    refine ab Y8 Z8 Z Z<|zo (cs:=[.int .i64 0,.int .i64 0,.raw (.slice none 0 0),.int .i64 0]) Zx Z Z<|fun i11=>zf Z8 Z Z Z Z Z Z .head Z<|zc (yk (t:=11) Z .head)<|z6<|ae<|aj jo Z jm Z Z<|aw jq Z<|z7 (qa Z Z)<|z6<|zp Z (fun cd=>?_) (fun cd=>?_)
    ·have hq:=As hmem (hx▸qn hm2) cd
     rw[if_pos cd] at hsn
     refine ym (γ:=Bool) [0,1,16,17,18,39,40,41] (fun u=>[(5,.bool u)]) (fun u=>[(i,.grow 2 T (lC (iF f how (l,c) (x.dst,false)).1))]) (fun u=>u=(iF f how (l,c) (x.dst,false)).2) ?_ (fun _ _ h=>h) ?_
     ·refine bD<|z7 (j8 Z)<|aj jo Z jm Z Z<|aw jq Z<|aa Z<|zq Z (zn (.l (.rest _))) (oS f hF (l,c) hl i T (x.dst,false) hq how) ?_
      rintro r52 O52 ⟨rfl,rfl⟩
      refine ay Z<|zx (s:=53) Z (fun c2=>?_) (fun c2=>?_)
      ·refine z8 Z Z c2<|aM Z c2 Z<|ad Z<|z6 ?_
       exact ⟨_,yE,aT,aJ,by unfold iF;simp_all⟩
      ·refine za Z Z c2<|ay Z<|aD Z c2 Z<|ad Z<|z6 ?_
       exact ⟨_,yE,aT,aJ,by unfold iF;simp_all⟩
     ·rintro u hu
      subst hu
      refine bD<|aQ Z Z<|aa Z<|z6 ?_
      exact ⟨(m+1,iF f how (l,c) (x.dst,false)),Aw,cU,aJ,⟨hm2,by rw[hsn,←ql (nS b),←ql,pJ,←hs],CW hR how hl hq⟩,by dsimp only;omega⟩
    ·rw[if_neg cd,List.append_nil] at hsn
     refine zi<|bD<|aQ Z Z<|aa Z<|z6 ?_
     exact ⟨(m+1,l,c),Aw,cU,aJ,⟨hm2,by rw[hsn];exact hs,hl⟩,by dsimp only;omega⟩
   ·have hmn:m=b.insts.length:=by simp at cm;omega
    subst hmn
    rw[qo] at hs
    refine y8<|bD<|aQ Z Z<|aa Z<|z6 ?_
    exact ⟨(k+1,l,c),mB,cU,aJ,⟨hk2,by rw[sN hk2,hbk];exact hs,hl⟩,by dsimp only;omega⟩
 ·have hkn:k=f.blocks.length:=by simp at ck;omega
  subst hkn
  rw[uL,hz] at hs
  subst hs
  refine y8<|ae<|ay Z<|ad Z<|z6<|zh<|zm (x:=.bool _) Z ?_
  exact ⟨rfl,_,.refl _,rfl⟩
def HH (f:ac) (l:List aA):List aA:=(cD f).foldl (bj (rF f)) l
def CX (f:ac) (l:List aA):Nat→List aA
 |0=>l
 |m+1=>HH f (CX f l m)
theorem xi {f:ac} (hR:em f.vars.length (rF f) (cD f)) {l:List aA} (hl:dj f.vars.length l):∀m,dj f.vars.length (CX f l m)
 |0=>hl
 |m+1=>by
  have:=nX hR (dS f) (CX f l m) false (fun _ h=>h) (xi hR hl m)
  rw[this.2] at this
  exact this.1
theorem ua (f:ac) (hF:jI f) (hR:em f.vars.length (rF f) (cD f)) (k:Nat) (i:Nat) (T:TypeId) :
  aU prog E 14 [f8 f (gv f) (.own i f.vars.length),.int .i64 (if 3≤k then 1 else 0)] [(i,.grow 2 T (lC (bW f k)))] (iB i (.grow 2 T (lC (bW f (k+1)))) (.bool (!decide (bW f (k+1)=bW f k)))):=by
 have hg:=qY hR k
 have h:=mr (E:=E) f hF hR (bW f k) hg.ok i T (if 3≤k then 1 else 0)
 obtain ⟨_,h2,h3⟩:=sR hR (m9 hF) (how:=if 3≤k then 1 else 0) (n:=k+1) (by unfold Dy;by_cases c:3≤k;rw[if_pos c,if_pos (by omega)];rw[if_neg c,if_neg (by omega)]) (dS f) (bW f k) false (fun _ h=>h) hg
 have e:cH (rF f) (fp f (k+1)) ((dS f).map (·.1)) (bW f k)=bW f (k+1):=rfl
 rw[e] at h2 h3
 rw[h2] at h
 rw[show (gD f (if 3≤k then 1 else 0) (dS f) (bW f k,false)).2=!decide (bW f (k+1)=bW f k) by rw[Bool.eq_iff_iff,h3];simp] at h
 exact h
theorem ub (f:ac) (hF:jI f) (hR:em f.vars.length (rF f) (cD f)) (l:List aA) (hl:dj f.vars.length l) (i:Nat) (T:TypeId) :
  aU prog E 14 [f8 f (gv f) (.own i f.vars.length),.int .i64 2] [(i,.grow 2 T (lC l))] (fun y O=>∃c:Bool,y=.bool c∧O=[(i,.grow 2 T (lC (HH f l)))]∧True):=by
 have h:=mr (E:=E) f hF hR l hl i T 2
 have h2:=(nX hR (dS f) l false (fun _ h=>h) hl).2
 rw[h2] at h
 exact h.mono fun y O ⟨a,b⟩=>⟨_,a,b,trivial⟩
set_option maxHeartbeats 4000000 in
theorem CY (f:ac) (hf:small f) (hL:aE E) (hs:(bf f&&dZ f)=true) (hR:em f.vars.length (rF f) (cD f)) (K:Nat) (hK:pK f K) :
  aF prog E 7 [.agg (b9 f)] (.tup [.fro 2 ((mC f K).map bk),.int .i64 0]):=by
 have hvn:=hf.1
 have hF:=oQ hf hs
 have hty:=(An hs).1
 have hlk:=Eq (E:=E) f hf hL hs
 have hend:dj f.vars.length (mC f K):=(yO hR hK).1
 refine zk func7 Z (by decide) Z<|ae<|zy (cs:=_) Z Z Z<|z7 (mS Z)<|aq Z<|z6<|ae<|ab jx js Z Z<|zq Z (zn (.rest _)) (hlk) ?_
 rintro r11 O11 ⟨iv,rfl,rfl⟩
 refine z7 (vX Z)<|z7 (q4 (v:=.po _ _) Z Z)<|z7 (r8 Z Z)<|z7 (f9 Z)<|aq Z<|z6<|ze<|ae<|aa Z<|z7 (yw Z Z)<|z6<|yn Z Z<|zi<|ze<|ae<|aj jt Z Y4 Z Z<|bd Yb Z<|au Zd Z<|aa Z<|z6<|xW (off:=5) (k:=2) (T:=36) (fun _=>.head) Z<|fun jl=>zj<|ya (γ:=Nat × Nat) [1,4,19] (fun g=>[(20,.int .i64 g.1)]) (fun g=>[(g.2,.grow 2 36 (lC ((dp f).take g.1))),(iv,.cells 71 (tU f (gv f) (.own g.2 g.1)))]) (fun g=>g.1≤f.vars.length) (fun g=>f.vars.length - g.1) (0,jl) aT aJ (qm _) ?_
 rintro ⟨k,jl⟩ hk
 try dsimp only at *
 refine ae<|ax Z Z<|z6<|ze<|zp Z (fun ck=>?_) (fun ck=>?_)
 ·have hk2:k<f.vars.length:=by simp at ck;omega
  have hfl:((dp f).take k).length=k:=by rw[List.length_take,gQ];omega
  have hft:=sM hk2
  have hvf:=tY (E:=E) f hf hL (k:Int)
  have hfp:oR f (k:Int)=gP f (k:Int):=by unfold oR;rw[if_pos ⟨hty,by omega,by omega⟩]
  rw[hfp] at hvf
  refine zi<|ze<|zj<|ae<|aa Z<|aq Z<|z6<|ze<|ym (γ:=Nat) [1,4,6,19,20] (fun z=>[]) (fun z=>[(z,.grow 2 36 (lC ((dp f).take k++[bw]))),(iv,.cells 71 (tU f (gv f) (.own z (k+1))))]) (fun z=>True) ?_ (fun _ _ h=>h) ?_
  ·refine zw (fun j=>Nat.beq j 10) (by kernel_rfl) Z (zn (.l (.r (.rest _))))<|ao 0 Z (j7 Z)<|ao 1 Z (j7 Z)<|ao 2 Z (yj Z)<|ao 3 Z (y0 Z7 Z Yd (by decide) Z Z)<|ao 4 Z (yd (c:=.own _ _) isAgg32 Z ⟨_,.head⟩ Z)<|aL 5 Z<|zg (fD) Z<|z6<|aL 6 Z<|zr (rows:=[[_,_]]) Gq Z Z Z Z Z<|z6<|aL 7 Z<|yp (k:=2) Z3 type36 Z Z Z Z Z (fun _=>.head) (by rw[rq,hfl]) (by decide) Z (by show (_+1)*16≤_;omega) (by show _+1≤_;omega)<|fun i30=>z6<|bt.takeK (i:=8) Z (by kernel_rfl) (by kernel_rfl) (by kernel_rfl) (by kernel_rfl) (yj Z)<|ao 9 Z (y0 Z7 Z Yd (by decide) Z Z)<|yu<|yz (i:=10) Z (by kernel_rfl) (by kernel_rfl)<|q8 (l:=[_]) (new:=[_,_,_,_,_,_]) Yd Z Z Z Z Z Z .head Z Z<|zc (zb (zd .head))<|zc (zb (zd .t1))<|z6<|yx (by kernel_rfl) ?_
   exact ⟨i30,oV,trivial,⟨_,(.refl _),(by rw[←ww];rfl)⟩,trivial⟩
  ·rintro jz _
   refine ae<|z7 (j7 Z)<|z7 (yj Z)<|z7 (y0 Z7 Z Zu (by decide) Z Z)<|z7 (yd (c:=.fro _ _) Ya Z ⟨_,.t1⟩ Z)<|aa Z<|z7 (db k Z6 Zl Z Z Z (gg hk2))<|aj Ze Z jm Z Z<|aw jq Z<|ax Z Z<|z6<|zp Z (fun cm=>?_) (fun cm=>?_)
   ·refine zw (fun j=>Nat.beq j 9) (by kernel_rfl) Z (zn (.l (.r (.rest _))))<|ao 0 Z (j7 Z)<|ao 1 Z (yj Z)<|ao 2 Z (y0 Z7 Z Yd (by decide) Z Z)<|ao 3 Z (yd (c:=.own _ _) isAgg32 Z ⟨_,.head⟩ Z)<|ao 4 Z (fC Z)<|ao 5 Z (yl jx js Z Z)<|ao 6 Z (fC Z)<|aL 7 Z<|zg (hvf) Z<|z6<|aL 8 Z<|z7 (Gv.idxR (j:=k) Z3 jf Z Z Z ⟨_,.head⟩ (by rw[qp,hfl];rfl) (by omega))<|z6<|yu<|yz (i:=9) Z (by kernel_rfl) (by kernel_rfl)<|ai.storeR (j:=k) jf Z Z .t1 (by rw[qp,hfl];show k<k+1;omega)<|z6<|yx (by kernel_rfl)<|yh (zb (zd .t1))<|bD<|aQ Z Z<|aa Z<|z6 ?_
    exact ⟨(k+1,jz),bX,aT,⟨_,(.refl _),by rw[hft,show gj f (k:Int)=gP f (k:Int) by unfold gj;rw[if_pos cm],List.set_append_right k (gP f k) (by omega),hfl,Nat.sub_self];rfl⟩,hk2,by dsimp only;omega⟩
   ·refine zi<|bD<|aQ Z Z<|aa Z<|z6 ?_
    exact ⟨(k+1,jz),bX,aT,⟨_,(.refl _),by rw[hft,show gj f (k:Int)=bw by unfold gj;rw[if_neg cm]];try rfl⟩,hk2,by dsimp only;omega⟩
 ·have hkn:k=f.vars.length:=by simp at ck;omega
  subst hkn
  rw[show (dp f).take f.vars.length=dp f by rw[←gQ f,qo]]
  refine y8<|ae<|aq Z<|z6<|ze<|ae<|aq Z<|z6<|yh (yk (t:=4) Z .t1)<|zj<|ya (γ:=Nat × Int) [4] (fun g=>[(7,.int .i64 (if 3≤g.1 then 1 else 0)),(8,.int .i64 g.2)]) (fun g=>[(jl,.grow 2 36 (lC (bW f g.1)))]) (fun g=>g.1≤K∧(g.1<3→g.2=(g.1:Int)+1)) (fun g=>K - g.1) (0,1) cU aJ (⟨qm _,fun _=>Z⟩) ?_
  rintro ⟨m,z⟩ ⟨hm,hz⟩
  try dsimp only at *
  refine ze<|ae<|z7 (j8 Z)<|aa Z<|zq Z (zn (.l (.rest _))) (ua f hF hR m jl _) ?_
  rintro r54 O54 ⟨rfl,rfl⟩
  refine z6<|zz Z (fun cr=>?_) (fun cr=>?_)
  ·have hne:¬bW f (m+1)=bW f m:=xg cr
   have hm2:m<K:=by
    rcases (by omega:m<K∨m=K) with h|h
    ·exact h
    ·rw[h] at hne;exact absurd hK.still hne
   refine zi<|ze<|ym (γ:=Int) [4,8] (fun w=>[(7,.int .i64 w)]) (fun w=>[(jl,.grow 2 36 (lC (bW f (m+1))))]) (fun w=>w=if 3≤m+1 then 1 else 0) ?_ (fun _ _ h=>h) ?_
   ·refine zj<|ae<|aa Z<|z7 (qa Z Z)<|z6<|zp Z (fun c3=>?_) (fun c3=>?_)
    ·refine bD<|aq Z<|z6 ?_
     exact ⟨_,cU,aT,aJ,by split;rfl;(have:=hz (by omega);omega)⟩
    ·refine zi ?_
     exact ⟨_,cU,aT,aJ,by by_cases h:3≤m;rw[if_pos h,if_pos (by omega)];(have:=hz (by omega);rw[if_neg h,if_neg (by omega)])⟩
   ·rintro w hw
    subst hw
    refine bD<|aa Z<|z7 (Gv.addW Z Z)<|aq Z<|z6 ?_
    exact ⟨(m+1,IntKind.i64.wrap (z+1)),aT,cU,aJ,⟨hm2,fun h=>by rw[hz (by omega)];exact eH (by unfold aK;omega)⟩,by dsimp only;omega⟩
  ·have hst:bW f (m+1)=bW f m:=xh cr
   have hmK:m=K:=by
    rcases (by omega:m<K∨m=K) with h|h
    ·exact absurd hst (hK.moves m h)
    ·exact h
   subst hmK
   rw[hst]
   refine y8<|ze<|ae<|aa Z<|z6<|zj<|ya (γ:=Nat) [4] (fun q=>[(59,.int .i64 q)]) (fun q=>[(jl,.grow 2 36 (lC (CX f (bW f m) q)))]) (fun q=>q≤2) (fun q=>2 - q) 0 aT aJ (qm _) ?_
   rintro q hq
   refine ae<|ax Z Z<|z6<|ze<|zp Z (fun cq=>?_) (fun cq=>?_)
   ·refine zi<|ze<|zj<|bD<|z7 (j8 Z)<|zq Z (zn (.l (.rest _))) (ub f hF hR (CX f (bW f m) q) (xi hR (qY hR m).ok q) jl _) ?_
    rintro r62 O62 ⟨c62,rfl,rfl,_⟩
    refine z6<|bD<|aQ Z Z<|aa Z<|z6 ?_
    exact ⟨q+1,aT,aT,aJ,by omega,by omega⟩
   ·obtain rfl:q=2:=by omega
    refine y8<|ae<|z7 (j8 Z)<|z7 (yr Z)<|aj Z7 Z Yd Z Z<|z7 (q7 (c:=.own _ _) isAgg32 Z)<|z7 (sB Z)<|aq Z<|z6<|yh (aN.knowR (t:=2) Z .head hend.1)<|zh<|dB.t2 (x:=.fro _ _) (y:=.int _ _) Z Z ?_
    rfl
end
section
open Go.Proofs.Tryz
open Go.Proofs Go.Lib Go.Shelf Go.RowKit
variable {E:World}
set_option maxRecDepth 20000
end
section
open Go.Proofs.Tryz
open Go.Proofs
def Db (x y:AV):Prop:=∀I v,br I x v→br I y v
def Au (xs ys:List AV):Prop:=∀I vs,RepL I xs vs→RepL I ys vs
theorem Db.refl (x:AV):Db x x:=fun _ _ h=>h
theorem Db.nil (k:Nat):Db (.raw (.slice none 0 0)) (.fro k []):=fun _ _ h=>⟨none,0,0,h,rfl,Nat.le_refl _,fun _=>rfl,trivial⟩
theorem Au.nil:Au [] []:=fun _ _ h=>h
theorem Au.cons {x y:AV} {xs ys:List AV} (h:Db x y) (hs:Au xs ys):Au (x::xs) (y::ys):=fun I _ ⟨v,us,e,h1,h2⟩=>⟨v,us,e,h I v h1,hs I us h2⟩
theorem Db.agg {xs ys:List AV} (h:Au xs ys):Db (.agg xs) (.agg ys):=fun I _ ⟨vs,e,h1⟩=>⟨vs,e,h I vs h1⟩
end
end Go.Proofs.YthphijnnbfjikaaGreatDoor
